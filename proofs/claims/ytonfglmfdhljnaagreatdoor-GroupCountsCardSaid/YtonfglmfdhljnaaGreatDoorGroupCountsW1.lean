/- For the law GroupCounts: each Go function answers as its plain Lean function tells, wherever that tells something; without further condition. -/
import Derived.Test.YtonfglmfdhljnaaGreatDoorProg
import Derived.Shelf.Strconv.Itoa3
import Derived.Test.YtonfglmfdhljnaaGreatDoorGroupCountsP1
section
namespace Go.Proofs.YtonfglmfdhljnaaGreatDoor.M
open Go Go.Eng Go.Proofs Go.RowKit
set_option linter.unusedVariables false
set_option linter.unusedSimpArgs false
open Go.Proofs.Tryz
set_option maxHeartbeats 4000000
set_option maxRecDepth 100000
abbrev cV (x : api_Value) : List Value := [.int .i64 x.Kind, .int .i64 x.N, .string x.S, .int .i64 x.H.a0, .int .i64 x.H.a1, .int .i64 x.H.a2, .int .i64 x.H.a3, .int .i64 x.H.a4, .int .i64 x.H.a5, .int .i64 x.H.a6, .int .i64 x.H.a7]
theorem mixed : Tryz.prog.follows .mixedOrders = true := by kernel_rfl
def GF (RA : Hp) : Prop := (∀ w, RA.sub w → Lib.TabIs Tryz.prog w "internal/strconv.uint64pow10" .u64 Lib.pow10Tab)
theorem GF.mono {R R' : Hp} (h : R.le R') (g : GF R) : GF R' := fun w hw => g w (fun k u hk => hw k u (h k u hk))
theorem GF_pow10 {RA : Hp} {w : World} (g : GF RA) (h : RA.sub w) : Lib.TabIs Tryz.prog w "internal/strconv.uint64pow10" .u64 Lib.pow10Tab := g w h
set_option maxRecDepth 100000 in
theorem elT33 : ElT Tryz.prog 33 53 1 24 := ⟨Tryz.underlying33, ⟨Tryz.t53, _, Tryz.type53, rfl, rfl, rfl, rfl⟩, by decide⟩
set_option maxRecDepth 100000 in
theorem elT22 : ElT Tryz.prog 22 47 2 24 := ⟨Tryz.underlying22, ⟨Tryz.t47, _, Tryz.type47, rfl, rfl, rfl, rfl⟩, by decide⟩
set_option maxRecDepth 100000 in
theorem elT62 : ElT Tryz.prog 62 22 1 24 := ⟨Tryz.underlying62, ⟨Tryz.t22, _, Tryz.type22, rfl, rfl, rfl, rfl⟩, by decide⟩
set_option maxRecDepth 100000 in
theorem elT53 : ElT Tryz.prog 53 52 11 96 := ⟨Tryz.underlying53, ⟨Tryz.t52, _, Tryz.type52, rfl, rfl, rfl, rfl⟩, by decide⟩
set_option maxRecDepth 100000 in
theorem elT43 : ElT Tryz.prog 43 3 1 8 := ⟨Tryz.underlying43, ⟨Tryz.t3, _, Tryz.type3, rfl, rfl, rfl, rfl⟩, by decide⟩
set_option maxRecDepth 100000 in
theorem elT84 : ElT Tryz.prog 84 5 1 1 := ⟨Tryz.underlying84, ⟨Tryz.t5, _, Tryz.type5, rfl, rfl, rfl, rfl⟩, by decide⟩
set_option maxRecDepth 100000 in
theorem elT88 : ElT Tryz.prog 88 33 1 24 := ⟨Tryz.underlying88, ⟨Tryz.t33, _, Tryz.type33, rfl, rfl, rfl, rfl⟩, by decide⟩
set_option maxRecDepth 100000 in
theorem elT23 : ElT Tryz.prog 23 9 1 16 := ⟨Tryz.underlying23, ⟨Tryz.t9, _, Tryz.type9, rfl, rfl, rfl, rfl⟩, by decide⟩
theorem ext141 (a b : ByteArray) (w : World) : (callFunc 141 #[.string a, .string b]).run Tryz.prog w = .ok (.value (.int .i64 (Lib.compareBytes a.data.toList b.data.toList))) w := by
  rw [run_callFunc_extern Tryz.func141 (by kernel_rfl) (by kernel_rfl) (by kernel_rfl) (e := Extern.BytealgCompare.compare) (by kernel_rfl), Lib.run_compareString]
  rfl
theorem places47 (w : World) : (placesOf Tryz.prog 47).run Tryz.prog w = .ok #[(0, 1), (1, 1)] w := by
  unfold placesOf
  rw [Tryz.underlying47]
  simp [Tryz.sizeOf3, Tryz.sizeOf9]
theorem places35 (w : World) : (placesOf Tryz.prog 35).run Tryz.prog w = .ok #[(0, 1), (1, 1)] w := by
  unfold placesOf
  rw [Tryz.underlying35]
  simp [Tryz.sizeOf22, Tryz.sizeOf33]
theorem places52 (w : World) : (placesOf Tryz.prog 52).run Tryz.prog w = .ok #[(0, 1), (1, 1), (2, 1), (3, 8)] w := by
  unfold placesOf
  rw [Tryz.underlying52]
  simp [Tryz.sizeOf3, Tryz.sizeOf50, Tryz.sizeOf9]
theorem places49 (w : World) : (placesOf Tryz.prog 49).run Tryz.prog w = .ok #[(0, 1), (1, 1)] w := by
  unfold placesOf
  rw [Tryz.underlying49]
  simp [Tryz.sizeOf3, Tryz.sizeOf9]
theorem eqs52 (x y : api_Value) : EqS Tryz.prog 52 #[.int .i64 x.Kind, .int .i64 x.N, .string x.S, .int .i64 x.H.a0, .int .i64 x.H.a1, .int .i64 x.H.a2, .int .i64 x.H.a3, .int .i64 x.H.a4, .int .i64 x.H.a5, .int .i64 x.H.a6, .int .i64 x.H.a7] #[.int .i64 y.Kind, .int .i64 y.N, .string y.S, .int .i64 y.H.a0, .int .i64 y.H.a1, .int .i64 y.H.a2, .int .i64 y.H.a3, .int .i64 y.H.a4, .int .i64 y.H.a5, .int .i64 y.H.a6, .int .i64 y.H.a7] (decide (x = y)) := by
  refine eqS_of (by kernel_rfl) (by kernel_rfl) (fun w => by
    simp only [Program.fieldsOf, Tryz.underlying52]
    exact eqF_cons (by decide) (run_part1 Tryz.isAgg3 rfl) (run_part1 Tryz.isAgg3 rfl) (run_equalIn_int w _ _ _ _ _ _ Tryz.underlying3) (eqF_cons (by decide) (run_part1 Tryz.isAgg3 rfl) (run_part1 Tryz.isAgg3 rfl) (run_equalIn_int w _ _ _ _ _ _ Tryz.underlying3) (eqF_cons (by decide) (run_part1 Tryz.isAgg9 rfl) (run_part1 Tryz.isAgg9 rfl) (run_equalIn_string w _ _ _ _ Tryz.underlying9) (eqF_cons (by decide) (run_partA (ys := (x.H.list.map (Value.int .i64)).toArray) Tryz.isAgg50 Tryz.sizeOf50 rfl) (run_partA (ys := (y.H.list.map (Value.int .i64)).toArray) Tryz.isAgg50 Tryz.sizeOf50 rfl) (eq_arr' (q := 9998) Tryz.underlying50 (fun a b w => run_equalIn_int w 9997 _ _ _ a b Tryz.underlying3) Tryz.isAgg3 Tryz.sizeOf3 x.H.list y.H.list rfl rfl w) (eqF_nil))))) ?_
  simp only [beq_bytes, Arr8.list_inj, Arr2.list_inj, Bool.and_true]
  cases x; cases y; simp <;> rfl
theorem places58 (w : World) : (placesOf Tryz.prog 58).run Tryz.prog w = .ok #[(0, 1), (1, 1), (2, 1), (3, 1), (4, 1), (5, 11), (16, 1), (17, 1), (18, 1)] w := by
  unfold placesOf
  rw [Tryz.underlying58]
  simp [Tryz.sizeOf23, Tryz.sizeOf24, Tryz.sizeOf3, Tryz.sizeOf43, Tryz.sizeOf52, Tryz.sizeOf9]
theorem places61 (w : World) : (placesOf Tryz.prog 61).run Tryz.prog w = .ok #[(0, 1)] w := by
  unfold placesOf
  rw [Tryz.underlying61]
  simp [Tryz.sizeOf59]
theorem places80 (w : World) : (placesOf Tryz.prog 80).run Tryz.prog w = .ok #[(0, 1), (1, 1), (2, 1), (3, 1)] w := by
  unfold placesOf
  rw [Tryz.underlying80]
  simp [Tryz.sizeOf59, Tryz.sizeOf62, Tryz.sizeOf77]
theorem eqs47 (x y : api_Col) : EqS Tryz.prog 47 #[.string x.Name, .int .i64 x.Kind] #[.string y.Name, .int .i64 y.Kind] (decide (x = y)) := by
  refine eqS_of (by kernel_rfl) (by kernel_rfl) (fun w => by
    simp only [Program.fieldsOf, Tryz.underlying47]
    exact eqF_cons (by decide) (run_part1 Tryz.isAgg9 rfl) (run_part1 Tryz.isAgg9 rfl) (run_equalIn_string w _ _ _ _ Tryz.underlying9) (eqF_cons (by decide) (run_part1 Tryz.isAgg3 rfl) (run_part1 Tryz.isAgg3 rfl) (run_equalIn_int w _ _ _ _ _ _ Tryz.underlying3) (eqF_nil))) ?_
  simp only [beq_bytes, Arr8.list_inj, Arr2.list_inj, Bool.and_true]
  cases x; cases y; simp <;> rfl
def itoL27_ren : Go.Shelf.Ren := ⟨fun | 171 => 27 | 243 => 48 | 246 => 71 | 283 => 95 | 284 => 96 | 285 => 97 | 286 => 98 | 129 => 116 | 317 => 125 | 318 => 126 | 319 => 127 | 320 => 128 | 337 => 139 | 338 => 140 | n => n, fun | 3 => 3 | 9 => 9 | 2 => 2 | 4 => 4 | 171 => 127 | 0 => 0 | 53 => 128 | 37 => 84 | 5 => 5 | 173 => 131 | 212 => 158 | 51 => 148 | 20 => 20 | 213 => 159 | 46 => 120 | 232 => 170 | 233 => 171 | n => n, fun | 17 => 0 | 18 => 2 | 19 => 3 | n => n⟩
theorem itoL27 : Go.Proofs.LaysM.n171 Tryz.prog itoL27_ren := {
  mixed := by kernel_rfl
  f129 := Tryz.func116.trans (congrArg some (by kernel_rfl))
  f171 := Tryz.func27.trans (congrArg some (by kernel_rfl))
  f243 := Tryz.func48.trans (congrArg some (by kernel_rfl))
  f246 := Tryz.func71.trans (congrArg some (by kernel_rfl))
  f283 := Tryz.func95.trans (congrArg some (by kernel_rfl))
  f284 := Tryz.func96.trans (congrArg some (by kernel_rfl))
  f285 := Tryz.func97.trans (congrArg some (by kernel_rfl))
  f286 := Tryz.func98.trans (congrArg some (by kernel_rfl))
  f317 := Tryz.func125.trans (congrArg some (by kernel_rfl))
  f318 := Tryz.func126.trans (congrArg some (by kernel_rfl))
  f319 := Tryz.func127.trans (congrArg some (by kernel_rfl))
  f320 := Tryz.func128.trans (congrArg some (by kernel_rfl))
  f337 := Tryz.func139.trans (congrArg some (by kernel_rfl))
  f338 := Tryz.func140.trans (congrArg some (by kernel_rfl))
  t0 := Tryz.underlying0
  a0 := Tryz.isAgg0
  z0 := Tryz.sizeOf0
  v0 := Tryz.zeroValue0
  t2 := Tryz.underlying2
  a2 := Tryz.isAgg2
  z2 := Tryz.sizeOf2
  v2 := Tryz.zeroValue2
  t3 := Tryz.underlying3
  a3 := Tryz.isAgg3
  z3 := Tryz.sizeOf3
  v3 := Tryz.zeroValue3
  t4 := Tryz.underlying4
  a4 := Tryz.isAgg4
  z4 := Tryz.sizeOf4
  v4 := Tryz.zeroValue4
  t5 := Tryz.underlying5
  a5 := Tryz.isAgg5
  z5 := Tryz.sizeOf5
  v5 := Tryz.zeroValue5
  t9 := Tryz.underlying9
  a9 := Tryz.isAgg9
  z9 := Tryz.sizeOf9
  v9 := Tryz.zeroValue9
  t20 := Tryz.underlying20
  a20 := Tryz.isAgg20
  z20 := Tryz.sizeOf20
  v20 := Tryz.zeroValue20
  t37 := Tryz.underlying84
  a37 := Tryz.isAgg84
  z37 := Tryz.sizeOf84
  v37 := Tryz.zeroValue84
  t46 := Tryz.underlying120
  a46 := Tryz.isAgg120
  z46 := Tryz.sizeOf120
  v46 := Tryz.zeroValue120
  t51 := Tryz.underlying148
  a51 := Tryz.isAgg148
  z51 := Tryz.sizeOf148
  v51 := Tryz.zeroValue148
  t53 := Tryz.underlying128
  a53 := Tryz.isAgg128
  z53 := Tryz.sizeOf128
  v53 := Tryz.zeroValue128
  t171 := Tryz.underlying127
  a171 := Tryz.isAgg127
  z171 := Tryz.sizeOf127
  v171 := Tryz.zeroValue127
  t173 := Tryz.underlying131
  a173 := Tryz.isAgg131
  z173 := Tryz.sizeOf131
  v173 := Tryz.zeroValue131
  t212 := Tryz.underlying158
  a212 := Tryz.isAgg158
  z212 := Tryz.sizeOf158
  v212 := Tryz.zeroValue158
  t213 := Tryz.underlying159
  a213 := Tryz.isAgg159
  z213 := Tryz.sizeOf159
  t232 := Tryz.underlying170
  a232 := Tryz.isAgg170
  z232 := Tryz.sizeOf170
  v232 := Tryz.zeroValue170
  t233 := Tryz.underlying171
  a233 := Tryz.isAgg171
  z233 := Tryz.sizeOf171
  v233 := Tryz.zeroValue171
  g17 := by kernel_rfl
  g18 := by kernel_rfl
  g19 := by kernel_rfl
  i0 := by kernel_rfl
  i2 := by kernel_rfl
  i3 := by kernel_rfl
  i4 := by kernel_rfl
  i5 := by kernel_rfl
  i9 := by kernel_rfl
  i20 := by kernel_rfl
  i37 := by kernel_rfl
  i46 := by kernel_rfl
  i51 := by kernel_rfl
  i53 := by kernel_rfl
  i171 := by kernel_rfl
  i173 := by kernel_rfl
  i212 := by kernel_rfl
  i232 := by kernel_rfl
  i233 := by kernel_rfl
  m17 := by kernel_rfl
  m18 := by kernel_rfl
  m19 := by kernel_rfl }
def sortL64_ren : Go.Shelf.Ren := ⟨fun | 6 => 64 | 15 => 86 | 14 => 85 | 28 => 115 | 29 => 116 | 20 => 107 | 21 => 108 | 22 => 109 | 23 => 110 | 24 => 111 | 25 => 112 | 26 => 113 | 27 => 114 | 46 => 132 | 47 => 133 | 48 => 134 | 49 => 135 | 50 => 136 | 57 => 142 | n => n, fun | 22 => 33 | 24 => 53 | 25 => 54 | 3 => 3 | 39 => 120 | 0 => 0 | 53 => 148 | 55 => 128 | 4 => 4 | 46 => 142 | 45 => 141 | 50 => 112 | 5 => 5 | 9 => 9 | 66 => 161 | 70 => 165 | 76 => 168 | 77 => 122 | n => n, fun | n => n⟩
theorem sortL64 : Go.Proofs.SlLaysF.n6 Tryz.prog sortL64_ren := {
  mixed := by kernel_rfl
  f6 := ⟨Tryz.f64.name, by decide, Tryz.func64.trans (congrArg some (by kernel_rfl))⟩
  f14 := ⟨Tryz.f85.name, by decide, Tryz.func85.trans (congrArg some (by kernel_rfl))⟩
  f15 := Tryz.func86.trans (congrArg some (by kernel_rfl))
  f20 := ⟨Tryz.f107.name, by decide, Tryz.func107.trans (congrArg some (by kernel_rfl))⟩
  f21 := ⟨Tryz.f108.name, by decide, Tryz.func108.trans (congrArg some (by kernel_rfl))⟩
  f22 := ⟨Tryz.f109.name, by decide, Tryz.func109.trans (congrArg some (by kernel_rfl))⟩
  f23 := ⟨Tryz.f110.name, by decide, Tryz.func110.trans (congrArg some (by kernel_rfl))⟩
  f24 := ⟨Tryz.f111.name, by decide, Tryz.func111.trans (congrArg some (by kernel_rfl))⟩
  f25 := ⟨Tryz.f112.name, by decide, Tryz.func112.trans (congrArg some (by kernel_rfl))⟩
  f26 := ⟨Tryz.f113.name, by decide, Tryz.func113.trans (congrArg some (by kernel_rfl))⟩
  f27 := ⟨Tryz.f114.name, by decide, Tryz.func114.trans (congrArg some (by kernel_rfl))⟩
  f28 := Tryz.func115.trans (congrArg some (by kernel_rfl))
  f29 := Tryz.func116.trans (congrArg some (by kernel_rfl))
  f46 := ⟨Tryz.f132.name, by decide, Tryz.func132.trans (congrArg some (by kernel_rfl))⟩
  f47 := Tryz.func133.trans (congrArg some (by kernel_rfl))
  f48 := Tryz.func134.trans (congrArg some (by kernel_rfl))
  f49 := ⟨Tryz.f135.name, by decide, Tryz.func135.trans (congrArg some (by kernel_rfl))⟩
  f50 := ⟨Tryz.f136.name, by decide, Tryz.func136.trans (congrArg some (by kernel_rfl))⟩
  f57 := ⟨Tryz.f142.name, by decide, Tryz.func142.trans (congrArg some (by kernel_rfl))⟩
  t0 := Tryz.underlying0
  a0 := Tryz.isAgg0
  z0 := Tryz.sizeOf0
  v0 := Tryz.zeroValue0
  t3 := Tryz.underlying3
  a3 := Tryz.isAgg3
  z3 := Tryz.sizeOf3
  v3 := Tryz.zeroValue3
  t4 := Tryz.underlying4
  a4 := Tryz.isAgg4
  z4 := Tryz.sizeOf4
  v4 := Tryz.zeroValue4
  t5 := Tryz.underlying5
  a5 := Tryz.isAgg5
  z5 := Tryz.sizeOf5
  v5 := Tryz.zeroValue5
  t9 := Tryz.underlying9
  a9 := Tryz.isAgg9
  z9 := Tryz.sizeOf9
  v9 := Tryz.zeroValue9
  t22 := Tryz.underlying33
  a22 := Tryz.isAgg33
  z22 := Tryz.sizeOf33
  v22 := Tryz.zeroValue33
  a24 := Tryz.isAgg53
  z24 := Tryz.sizeOf53
  t25 := Tryz.underlying54
  a25 := Tryz.isAgg54
  z25 := Tryz.sizeOf54
  v25 := Tryz.zeroValue54
  t39 := Tryz.underlying120
  a39 := Tryz.isAgg120
  z39 := Tryz.sizeOf120
  v39 := Tryz.zeroValue120
  t45 := Tryz.underlying141
  a45 := Tryz.isAgg141
  z45 := Tryz.sizeOf141
  v45 := Tryz.zeroValue141
  t46 := Tryz.underlying142
  a46 := Tryz.isAgg142
  z46 := Tryz.sizeOf142
  v46 := Tryz.zeroValue142
  t50 := Tryz.underlying112
  a50 := Tryz.isAgg112
  z50 := Tryz.sizeOf112
  v50 := Tryz.zeroValue112
  t53 := Tryz.underlying148
  a53 := Tryz.isAgg148
  z53 := Tryz.sizeOf148
  v53 := Tryz.zeroValue148
  t55 := Tryz.underlying128
  a55 := Tryz.isAgg128
  z55 := Tryz.sizeOf128
  v55 := Tryz.zeroValue128
  t66 := Tryz.underlying161
  a66 := Tryz.isAgg161
  z66 := Tryz.sizeOf161
  v66 := Tryz.zeroValue161
  t70 := Tryz.underlying165
  a70 := Tryz.isAgg165
  z70 := Tryz.sizeOf165
  v70 := Tryz.zeroValue165
  t76 := Tryz.underlying168
  a76 := Tryz.isAgg168
  z76 := Tryz.sizeOf168
  v76 := Tryz.zeroValue168
  t77 := Tryz.underlying122
  a77 := Tryz.isAgg122
  z77 := Tryz.sizeOf122
  v77 := Tryz.zeroValue122 }
theorem eqs50 (x y : Arr8) : EqS Tryz.prog 50 (x.list.map (Value.int .i64)).toArray (y.list.map (Value.int .i64)).toArray (decide (x = y)) := eqA_of Tryz.underlying50 Tryz.underlying3 Tryz.isAgg3 Tryz.sizeOf3 rfl rfl rfl rfl Arr8.list_inj
theorem law18_pairs.calls (a0 : ByteArray) (a1 : List Int) {w0 : World} {R : Hp} {RA : Hp} {v1_0 : Value} (hRA : RA.sub w0) (hR : R.sub w0) (h1_0 : SlR (tyInt .i64) RA v1_0 a1) {r : api_Table} (H : law18_pairs a0 a1 = some r) : Calls prog 24 #[.string a0,v1_0] w0 (Rets fun v w'=>∃ (R' : Hp) (u0 : Value) (cu0 : List Value) (u1 : Value) (cu1 : List Value),v = .agg #[u0,u1] ∧ St [] w0 w' R' [.row 47 2 u0 r.Cols.length cu0,.row 53 1 u1 r.Rows.length cu1] ∧ RLe [] w0 R R' ∧ Reps ty_api_Col R' cu0 r.Cols ∧ Reps (tySl ty_api_Value) R' cu1 r.Rows):=by
 unfold law18_pairs at H
 refine enter (args:=[.string a0,v1_0]) func24 rfl ntmps24 rfl fun a q=>?_
 have s:=St.init hR
 have hRL:=RLe.refl (M:=[]) w0 R
 refine zq<|zr ?_
 refine sl_alloc zeroValue35 s q (by decide) rfl rfl fun a w b_1 s q=>?_
 refine zn<|zq<|zr<|zl q (r_buildC (ps:=[(0,.string (⟨#[107]⟩ : ByteArray)),(1,I6 2)]) (c:=[.string (⟨#[107]⟩ : ByteArray),I6 2]) underlying47 zeroValue47 places47 q rfl (pc_cons rfl (pc_cons rfl pc_nil)) rfl rfl) fun a q=>zl q (r_buildC (ps:=[(0,.string (⟨#[110]⟩ : ByteArray)),(1,I6 1)]) (c:=[.string (⟨#[110]⟩ : ByteArray),I6 1]) underlying47 zeroValue47 places47 q rfl (pc_cons rfl (pc_cons rfl pc_nil)) rfl rfl) fun a q=>?_
 refine sl_buildSliceF (zc:=[.string (⟨#[]⟩ : ByteArray),I6 0]) (ps:=[(0,.agg #[.string (⟨#[107]⟩ : ByteArray),I6 2]),(1,.agg #[.string (⟨#[110]⟩ : ByteArray),I6 1])]) (c:=[.string (⟨#[107]⟩ : ByteArray),I6 2,.string (⟨#[110]⟩ : ByteArray),I6 1]) [[.string (⟨#[107]⟩ : ByteArray),I6 2],[.string (⟨#[110]⟩ : ByteArray),I6 1]] underlying22 sizeOf47 zeroValue47 rfl (pc_cons rfl (pc_cons rfl pc_nil)) rfl rfl (Nat.le_of_ble_eq_true rfl) rfl (zc (zc zz)) rfl s q (by decide) rfl fun a w b_2 s q=>?_
 refine zl q (r_buildC (ps:=[(0,.slice (some ⟨b_2,0,none⟩) 2 2)]) (c:=[.slice (some ⟨b_2,0,none⟩) 2 2,.slice none 0 0]) underlying35 zeroValue35 places35 q rfl (pc_cons rfl pc_nil) rfl rfl) fun a q=>?_
 refine sl_alloc zeroValue35 s q (by decide) rfl rfl fun a w b_3 s q=>?_
 refine sl_storeA (vs:=[.slice (some ⟨b_2,0,none⟩) 2 2,.slice none 0 0]) (c':=[.slice (some ⟨b_2,0,none⟩) 2 2,.slice none 0 0]) sizeOf35 s q rfl rfl rfl rfl (zc (zc zz)) (Nat.le_of_ble_eq_true rfl) rfl fun a w s q=>?_
 refine zn<|zq<|zq<|zr<|za q rfl fun a q=>zn ?_
 refine wp_block ?_
 refine wp_loop_k (fun k_l0 a w=>∃ (x_64 : List api_Col) (x_69 : List (List api_Value)) (x_73 : Int) (R_74 : Hp) (v_65 : Value) (cs_66 : List Value) (v_70 : Value) (cs_71 : List Value),law18_pairs.l0 a0 a1 k_l0 x_64 x_69 x_73 = some r ∧ RLe [] w0 R R_74 ∧ Reps ty_api_Col R_74 cs_66 x_64 ∧ Reps (tySl ty_api_Value) R_74 cs_71 x_69 ∧ Kn 35 a [(0,.string a0),(1,v1_0),(4,.pointer (some ⟨b_1,0,none⟩)),(5,.pointer (some ⟨b_3,0,none⟩)),(6,I6 x_73)] ∧ St [] w0 w R_74 [.cells b_1 [.slice none 0 0,.slice none 0 0] 35,.row 47 2 v_65 x_64.length cs_66,.row 53 1 v_70 x_69.length cs_71,.cells b_3 [v_65,v_70] 35]) (((a0.size : Int) - 0).toNat + 1) ?_ ?_
 have s:=s.pk1
 have s:=s.row_lit (size:=2) (m:=2) rfl (by decide)
 have hq_122 : Reps ty_api_Col R [.string (⟨#[107]⟩ : ByteArray),I6 2,.string (⟨#[110]⟩ : ByteArray),I6 1] [(⟨(⟨#[107]⟩ : ByteArray),2⟩ : api_Col),(⟨(⟨#[110]⟩ : ByteArray),1⟩ : api_Col)]:=(Reps.cons (show Ty.rep ty_api_Col _ [.string (⟨#[107]⟩ : ByteArray),I6 2] (⟨(⟨#[107]⟩ : ByteArray),2⟩ : api_Col) from rfl) (Reps.cons (show Ty.rep ty_api_Col _ [.string (⟨#[110]⟩ : ByteArray),I6 1] (⟨(⟨#[110]⟩ : ByteArray),1⟩ : api_Col) from rfl) (Reps.nil _ _)))
 have s:=s.row_nil 53 1
 have hq_124 : Reps (tySl ty_api_Value) R [] ([] : List (List api_Value)):=Reps.nil _ _
 have s:=s.pk2
 have s:=s.pk1
 have s:=s.pk2
 have s:=s.pk3
 exact ⟨[(⟨(⟨#[107]⟩ : ByteArray),2⟩ : api_Col),(⟨(⟨#[110]⟩ : ByteArray),1⟩ : api_Col)],[],0,_,_,_,_,_,H,(RLe.refl _ _),hq_122,hq_124,q.sub (zc (zc (zc (zc (zc zz))))),s⟩
 rintro k_l0 a w ⟨x_64,x_69,x_73,R_74,v_65,cs_66,v_70,cs_71,H,hl_75,hq_67,hq_72,q,s⟩
 rcases k_l0 with _ | k_l0
 cases H
 rw [law18_pairs.l0.eq_2] at H
 have hRL:=hRL.trans hl_75
 refine zq<|zq<|zr<|zm q rfl fun a q=>zm q rfl fun a q=>zl q (r_len_str underlying9 q rfl) fun a q=>zl q (r_ibin q rfl rfl rfl) fun a q=>zn ?_
 refine wp_cond_split (q.ev rfl) (fun (hb_125 : (decide (x_73 < (a0.size : Int))) = true)=>?_) fun hb_125=>?_
 rw [ifb_t hb_125] at H
 refine wp_skip<|zq ?_
 refine wp_block ?_
 refine parT_region (C:=fun w=>St [] w0 w R_74 [.cells b_1 [.slice none 0 0,.slice none 0 0] 35,.row 47 2 v_65 x_64.length cs_66,.row 53 1 v_70 x_69.length cs_71,.cells b_3 [v_65,v_70] 35]) 15 [(0,true),(1,true),(2,true),(3,true),(4,true),(5,true),(6,true),(7,true),(8,true),(9,true),(10,true),(11,true),(12,true),(13,false),(14,false)] mixed (by kernel_rfl) s (fun w s=>s) fun w s=>?_
 refine zp rfl q (fun w s=>r_fieldAddr underlying35 rfl sizeOf33 q rfl) fun a q=>zp rfl q (fun w s=>r_load isAgg33 q rfl (s.cell z3 rfl)) fun a q=>zp rfl q (fun w s=>r_move q rfl) fun a q=>zp rfl q (fun w s=>r_move q rfl) fun a q=>zp rfl q (fun w s=>r_move q rfl) fun a q=>zp rfl q (fun w s=>r_ibin q rfl rfl rfl) fun a q=>?_
 obtain ⟨y_148,h_149,H⟩:=bs H
 refine zp rfl q (fun w s=>r_slice_s (lo:=some (.tmp 20)) (hi:=some (.tmp 22)) underlying9 h_149 q rfl ⟨_,rfl⟩ ⟨_,rfl⟩) fun a q=>zp rfl q (fun w s=>r_buildC (ps:=[(0,I6 2),(2,.string y_148)]) (c:=[I6 2,I6 0,.string y_148,I6 0,I6 0,I6 0,I6 0,I6 0,I6 0,I6 0,I6 0]) underlying52 zeroValue52 places52 q rfl (pc_cons rfl (pc_cons rfl pc_nil)) rfl rfl) fun a q=>zp rfl q (fun w s=>r_move q rfl) fun a q=>zp rfl q (fun w s=>r_move q rfl) fun a q=>?_
 obtain ⟨y_150,h_151,H⟩:=bs H
 obtain ⟨b_152,o_153,c_154,cs_155,hv_156,hr_157,hc_158,h_1510,h_1511⟩:=h1_0.ix h_151
 subst hr_157
 refine zp rfl q (fun w s=>r_indexAddr_R underlying43 sizeOf3 hv_156 h_1510 h_1511 q rfl rfl) fun a q=>zp rfl q (fun w s=>r_load isAgg3 q rfl ((s.ra hRA nil_not).cell (hc_158 0 _ rfl))) fun a q=>zp rfl q (fun w s=>r_buildC (ps:=[(0,I6 1),(1,I6 y_150)]) (c:=[I6 1,I6 y_150,.string (⟨#[]⟩ : ByteArray),I6 0,I6 0,I6 0,I6 0,I6 0,I6 0,I6 0,I6 0]) underlying52 zeroValue52 places52 q rfl (pc_cons rfl (pc_cons rfl pc_nil)) rfl rfl) fun a q=>?_
 refine spw (k:=13) rfl rfl s ?_
 refine sl_buildSliceF (zc:=[I6 0,I6 0,.string (⟨#[]⟩ : ByteArray),I6 0,I6 0,I6 0,I6 0,I6 0,I6 0,I6 0,I6 0]) (ps:=[(0,.agg #[I6 2,I6 0,.string y_148,I6 0,I6 0,I6 0,I6 0,I6 0,I6 0,I6 0,I6 0]),(1,.agg #[I6 1,I6 y_150,.string (⟨#[]⟩ : ByteArray),I6 0,I6 0,I6 0,I6 0,I6 0,I6 0,I6 0,I6 0])]) (c:=[I6 2,I6 0,.string y_148,I6 0,I6 0,I6 0,I6 0,I6 0,I6 0,I6 0,I6 0,I6 1,I6 y_150,.string (⟨#[]⟩ : ByteArray),I6 0,I6 0,I6 0,I6 0,I6 0,I6 0,I6 0,I6 0]) [[I6 2,I6 0,.string y_148,I6 0,I6 0,I6 0,I6 0,I6 0,I6 0,I6 0,I6 0],[I6 1,I6 y_150,.string (⟨#[]⟩ : ByteArray),I6 0,I6 0,I6 0,I6 0,I6 0,I6 0,I6 0,I6 0]] underlying53 sizeOf52 zeroValue52 rfl (pc_cons rfl (pc_cons rfl pc_nil)) rfl rfl (Nat.le_of_ble_eq_true rfl) rfl (zc (zc zz)) rfl s q (by decide) rfl fun a w b_159 s q=>?_
 refine parK_nil (s.pk4.pk4.pk4.pk4.trunc 4) ?_
 refine spw (k:=14) rfl rfl (s.pk4.pk4.pk4.pk4.trunc 4) ?_
 refine sl_buildSliceF (zc:=[.slice none 0 0]) (ps:=[(0,.slice (some ⟨b_159,0,none⟩) 2 2)]) (c:=[.slice (some ⟨b_159,0,none⟩) 2 2]) [[.slice (some ⟨b_159,0,none⟩) 2 2]] underlying33 sizeOf53 zeroValue53 rfl (pc_cons rfl pc_nil) rfl rfl (Nat.le_of_ble_eq_true rfl) rfl (zc zz) rfl s q (by decide) rfl fun a w b_160 s q=>?_
 refine parK_nil (s.pk5.pk5.pk5.pk5.trunc 4) ?_
 refine thenL_nil ?_
 have s:=s.pk4
 have s:=s.pk2
 obtain ⟨R_161,s,hl_163,hs_162⟩:=s.fz_lit (ty:=ty_api_Value) (xs:=[(⟨2,0,y_148,(⟨0,0,0,0,0,0,0,0⟩ : Arr8)⟩ : api_Value),(⟨1,y_150,(⟨#[]⟩ : ByteArray),(⟨0,0,0,0,0,0,0,0⟩ : Arr8)⟩ : api_Value)]) (Reps.cons (show Ty.rep ty_api_Value _ [I6 2,I6 0,.string y_148,I6 0,I6 0,I6 0,I6 0,I6 0,I6 0,I6 0,I6 0] (⟨2,0,y_148,(⟨0,0,0,0,0,0,0,0⟩ : Arr8)⟩ : api_Value) from rfl) (Reps.cons (show Ty.rep ty_api_Value _ [I6 1,I6 y_150,.string (⟨#[]⟩ : ByteArray),I6 0,I6 0,I6 0,I6 0,I6 0,I6 0,I6 0,I6 0] (⟨1,y_150,(⟨#[]⟩ : ByteArray),(⟨0,0,0,0,0,0,0,0⟩ : Arr8)⟩ : api_Value) from rfl) (Reps.nil _ _))) rfl
 have hRL:=hRL.trans hl_163
 obtain ⟨y_164,h_165,H⟩:=bs H
 refine sl_append_L (ty:=(tySl ty_api_Value)) (ys:=[[(⟨2,0,y_148,(⟨0,0,0,0,0,0,0,0⟩ : Arr8)⟩ : api_Value),(⟨1,y_150,(⟨#[]⟩ : ByteArray),(⟨0,0,0,0,0,0,0,0⟩ : Arr8)⟩ : api_Value)]]) elT33 (by decide) rfl (hq_72.mono hl_163.le) rfl (Reps.cons (show Ty.rep (tySl ty_api_Value) _ [(.slice (some ⟨b_159,0,none⟩) 2 2)] [(⟨2,0,y_148,(⟨0,0,0,0,0,0,0,0⟩ : Arr8)⟩ : api_Value),(⟨1,y_150,(⟨#[]⟩ : ByteArray),(⟨0,0,0,0,0,0,0,0⟩ : Arr8)⟩ : api_Value)] from ⟨_,rfl,hs_162⟩) (Reps.nil _ _)) rfl h_165 s q (by decide) rfl rfl rfl fun a w v_166 cs_167 hq_168 s q=>?_
 refine zl q (r_fieldAddr underlying35 rfl sizeOf33 q rfl) fun a q=>?_
 have s:=s.pk3
 refine sl_store1 (c':=[v_65,v_166]) sizeOf33 s q rfl rfl rfl (s.row_one z1) (Nat.le_of_ble_eq_true rfl) rfl fun a w s q=>?_
 refine wpList_nil (NoP_nil ?_)
 refine zr<|zm q rfl fun a q=>zl q (r_ibin q rfl rfl rfl) fun a q=>za q rfl fun a q=>zn ?_
 have s:=s.pk1
 have s:=s.pk3
 have s:=s.pk3
 exact ⟨_,Nat.lt_succ_self _,x_64,y_164,(IntKind.i64.wrap (x_73 + 1)),_,_,_,_,_,H,(hl_75.trans hl_163),(hq_67.mono hl_163.le),hq_168,q.sub (zc (zc (zc (zc (zc zz))))),s⟩
 rw [ifb_f hb_125] at H
 refine wp_exit ?_
 refine zq<|zr<|zl q (r_loadA (cs:=[v_65,v_70]) isAgg35 sizeOf35 rfl q rfl (s.cells_of (m:=2) z3 rfl)) fun a q=>?_
 refine sl_storeA (vs:=[v_65,v_70]) (c':=[v_65,v_70]) sizeOf35 s q rfl rfl rfl rfl (all_cons (s.row_one z1) (all_cons (s.row_one z2) zz)) (Nat.le_of_ble_eq_true rfl) rfl fun a w s q=>?_
 refine zn ?_
 obtain rfl:=Option.some.inj H
 refine wp_ret ?_
 repeat first | refine zt ?_ | refine zb ?_ | refine zo ?_
 exact ret_1 results24 q (rv_cell (c:=[v_65,v_70]) isAgg35 sizeOf35 s z0 rfl q rfl) ⟨_,rfl,_,_,_,_,_,rfl,(s.pk2.pk2.trunc 2),hRL,hq_67,hq_72⟩
theorem table_Name.calls (a0 : ByteArray) {r : Bool} (H : table_Name a0 = some r) (w0 : World) : CallsV prog 72 #[.string a0] w0 (.bool r):=by
 unfold table_Name at H
 refine enter (args:=[.string a0]) func72 rfl ntmps72 rfl fun a q=>?_
 have s:=St.init (R:=fun _=>none) (w:=w0) (fun _ _ h=>by cases h)
 have hRL:=RLe.refl (M:=[]) w0 (fun _=>none)
 refine zq<|zr<|za q rfl fun a q=>zn<|zq<|zq<|zr<|zm q rfl fun a q=>zl q (r_len_str underlying9 q rfl) fun a q=>zm q rfl fun a q=>zn ?_
 refine wp_block ?_
 refine wp_loop_k (fun k_l0 a w=>∃ (x_11 : Int),table_Name.l0 a0 k_l0 x_11 = some r ∧ Kn 48 a [(0,.string a0),(6,I6 (a0.size : Int)),(7,I6 x_11)] ∧ St [] w0 w (fun _=>none) []) (((a0.size : Int) - 0).toNat + 1) ?_ ?_
 exact ⟨0,H,q.sub (zc (zc (zc zz))),s⟩
 rintro k_l0 a w ⟨x_11,H,q,s⟩
 rcases k_l0 with _ | k_l0
 cases H
 rw [table_Name.l0.eq_2] at H
 refine zq<|zr<|zl q (r_ibin q rfl rfl rfl) fun a q=>zn<|zq ?_
 refine wp_cond_split (q.ev rfl) (fun (hb_49 : (decide (x_11 < (a0.size : Int))) = true)=>?_) fun hb_49=>?_
 rw [ifb_t hb_49] at H
 refine wp_skip<|zq ?_
 refine wp_block ?_
 refine zq<|zr<|zm q rfl fun a q=>za q rfl fun a q=>zn<|zq<|zr<|zm q rfl fun a q=>zm q rfl fun a q=>?_
 obtain ⟨y_50,h_51,H⟩:=bs H
 refine zl q (r_index_str' underlying9 h_51 q rfl rfl) fun a q=>za q rfl fun a q=>zn ?_
 refine wp_block ?_
 refine zq ?_
 refine wp_mid (fun a w=>∃ (x_53 : Bool),table_Name.j1 (table_Name.l0 a0 k_l0) a0 x_11 y_50 x_53 = some r ∧ Kn 48 a [(0,.string a0),(3,I6 x_11),(4,.int .u8 y_50),(6,I6 (a0.size : Int)),(7,I6 x_11),(13,.bool x_53)] ∧ St [] w0 w (fun _=>none) []) ?_ ?_
 refine zr<|zm q rfl fun a q=>zl q (r_ibin q rfl rfl rfl) fun a q=>zm q rfl fun a q=>?_
 rcases or_b (decide (y_50 ≥ 97)) with hb_55 | hb_55
 rw [ifb_t hb_55] at H
 refine zw q (wtt hb_55) (r_move q rfl) fun a q=>zw q (wtt hb_55) (r_ibin q rfl rfl rfl) fun a q=>zl q (r_pick_t hb_55 q rfl rfl) fun a q=>za q rfl fun a q=>zn ?_
 exact ⟨(decide (y_50 ≤ 122)),H,q.sub (zc (zc (zc (zc (zc (zc zz)))))),s⟩
 rw [ifb_f hb_55] at H
 refine zsw q (wtf hb_55) fun a q=>zsw q (wtf hb_55) fun a q=>zl q (r_pick_f hb_55 q rfl rfl) fun a q=>za q rfl fun a q=>zn ?_
 exact ⟨false,H,q.sub (zc (zc (zc (zc (zc (zc zz)))))),s⟩
 rintro a w ⟨x_53,H,q,s⟩
 unfold table_Name.j1 at H
 refine wp_mid (fun a w=>table_Name.j2 (table_Name.l0 a0 k_l0) a0 x_11 = some r ∧ Kn 48 a [(0,.string a0),(6,I6 (a0.size : Int)),(7,I6 x_11)] ∧ St [] w0 w (fun _=>none) []) ?_ ?_
 refine wp_cond_split (q.ev rfl) (fun (hb_71 : x_53 = true)=>?_) fun hb_71=>?_
 rw [ifb_t hb_71] at H
 refine wp_skip ?_
 exact ⟨H,q.sub (zc (zc (zc zz))),s⟩
 rw [ifb_f hb_71] at H
 refine zq ?_
 refine wp_mid (fun a w=>∃ (x_77 : Bool),table_Name.j3 (table_Name.l0 a0 k_l0) a0 x_11 x_77 = some r ∧ Kn 48 a [(0,.string a0),(6,I6 (a0.size : Int)),(7,I6 x_11),(20,.bool x_77)] ∧ St [] w0 w (fun _=>none) []) ?_ ?_
 refine zr<|zm q rfl fun a q=>zl q (r_ibin q rfl rfl rfl) fun a q=>zm q rfl fun a q=>?_
 rcases or_b (decide (x_11 > 0)) with hb_79 | hb_79
 rw [ifb_t hb_79] at H
 refine zw q (wtt hb_79) (r_move q rfl) fun a q=>zw q (wtt hb_79) (r_ibin q rfl rfl rfl) fun a q=>zw q (wtt hb_79) (r_move q rfl) fun a q=>?_
 rcases or_b (decide (y_50 ≥ 48)) with hb_80 | hb_80
 rw [ifb_t hb_80] at H
 refine zw q (wtt hb_80) (r_move q rfl) fun a q=>zw q (wtt hb_80) (r_ibin q rfl rfl rfl) fun a q=>zw q (wtt hb_79) (r_pick_t hb_80 q rfl rfl) fun a q=>zw q (wtt hb_79) (r_move q rfl) fun a q=>?_
 rcases or_b (decide (y_50 ≤ 57)) with hb_81 | hb_81
 rw [ifb_t hb_81] at H
 refine zsw q (wft hb_81) fun a q=>zsw q (wft hb_81) fun a q=>zw q (wtt hb_79) (r_pick_t hb_81 q rfl rfl) fun a q=>zw q (wtt hb_79) (r_move q rfl) fun a q=>zs q fun a q=>zs q fun a q=>zw q (wtt hb_79) (r_pick q rfl rfl rfl) fun a q=>zl q (r_pick_t hb_79 q rfl rfl) fun a q=>za q rfl fun a q=>zn ?_
 exact ⟨true,H,q.sub (zc (zc (zc (zc zz)))),s⟩
 rw [ifb_f hb_81] at H
 refine zw q (wff hb_81) (r_move q rfl) fun a q=>zw q (wff hb_81) (r_ibin q rfl rfl rfl) fun a q=>zw q (wtt hb_79) (r_pick_f hb_81 q rfl rfl) fun a q=>zw q (wtt hb_79) (r_move q rfl) fun a q=>?_
 rcases or_b (y_50 == 95) with hb_82 | hb_82
 rw [ifb_t hb_82] at H
 refine zsw q (wft hb_82) fun a q=>zsw q (wft hb_82) fun a q=>zw q (wtt hb_79) (r_pick_t hb_82 q rfl rfl) fun a q=>zl q (r_pick_t hb_79 q rfl rfl) fun a q=>za q rfl fun a q=>zn ?_
 exact ⟨true,H,q.sub (zc (zc (zc (zc zz)))),s⟩
 rw [ifb_f hb_82] at H
 refine zw q (wff hb_82) (r_move q rfl) fun a q=>zw q (wff hb_82) (r_ibin q rfl rfl rfl) fun a q=>zw q (wtt hb_79) (r_pick_f hb_82 q rfl rfl) fun a q=>zl q (r_pick_t hb_79 q rfl rfl) fun a q=>za q rfl fun a q=>zn ?_
 exact ⟨(y_50 == 35),H,q.sub (zc (zc (zc (zc zz)))),s⟩
 rw [ifb_f hb_80] at H
 refine zsw q (wtf hb_80) fun a q=>zsw q (wtf hb_80) fun a q=>zw q (wtt hb_79) (r_pick_f hb_80 q rfl rfl) fun a q=>zw q (wtt hb_79) (r_move q rfl) fun a q=>zm q rfl fun a q=>zl q (r_ibin q rfl rfl rfl) fun a q=>zw q (wtt hb_79) (r_pick q rfl rfl rfl) fun a q=>zw q (wtt hb_79) (r_move q rfl) fun a q=>?_
 rcases or_b (y_50 == 95) with hb_83 | hb_83
 rw [ifb_t hb_83] at H
 refine zsw q (wft hb_83) fun a q=>zsw q (wft hb_83) fun a q=>zw q (wtt hb_79) (r_pick_t hb_83 q rfl rfl) fun a q=>zl q (r_pick_t hb_79 q rfl rfl) fun a q=>za q rfl fun a q=>zn ?_
 exact ⟨true,H,q.sub (zc (zc (zc (zc zz)))),s⟩
 rw [ifb_f hb_83] at H
 refine zw q (wff hb_83) (r_move q rfl) fun a q=>zw q (wff hb_83) (r_ibin q rfl rfl rfl) fun a q=>zw q (wtt hb_79) (r_pick_f hb_83 q rfl rfl) fun a q=>zl q (r_pick_t hb_79 q rfl rfl) fun a q=>za q rfl fun a q=>zn ?_
 exact ⟨(y_50 == 35),H,q.sub (zc (zc (zc (zc zz)))),s⟩
 rw [ifb_f hb_79] at H
 refine zsw q (wtf hb_79) fun a q=>zsw q (wtf hb_79) fun a q=>zsw q (wtf hb_79) fun a q=>zs q fun a q=>zs q fun a q=>zsw q (wtf hb_79) fun a q=>zsw q (wtf hb_79) fun a q=>zs q fun a q=>zs q fun a q=>zsw q (wtf hb_79) fun a q=>zsw q (wtf hb_79) fun a q=>zs q fun a q=>zs q fun a q=>zsw q (wtf hb_79) fun a q=>zl q (r_pick_f hb_79 q rfl rfl) fun a q=>za q rfl fun a q=>zn ?_
 exact ⟨false,H,q.sub (zc (zc (zc (zc zz)))),s⟩
 rintro a w ⟨x_77,H,q,s⟩
 unfold table_Name.j3 at H
 refine wp_cond_split (q.ev rfl) (fun (hb_84 : x_77 = true)=>?_) fun hb_84=>?_
 rw [ifb_t hb_84] at H
 refine wp_skip ?_
 exact ⟨H,q.sub (zc (zc (zc zz))),s⟩
 rw [ifb_f hb_84] at H
 refine zq<|zr<|za q rfl fun a q=>zn ?_
 obtain rfl:=Option.some.inj H
 refine wp_ret ?_
 repeat first | refine zt ?_ | refine zb ?_ | refine zo ?_
 exact ret_1 results72 q (rv_tmp q rfl) ⟨rfl,s.bel⟩
 rintro a w ⟨H,q,s⟩
 unfold table_Name.j2 at H
 refine zr<|zl q (r_ibin q rfl rfl rfl) fun a q=>zm q rfl fun a q=>zn ?_
 exact ⟨_,Nat.lt_succ_self _,(IntKind.i64.wrap (x_11 + 1)),H,q.sub (zc (zc (zc zz))),s⟩
 rw [ifb_f hb_49] at H
 refine wp_exit ?_
 refine zq<|zr<|zm q rfl fun a q=>zl q (r_len_str underlying9 q rfl) fun a q=>zl q (r_ibin q rfl rfl rfl) fun a q=>zm q rfl fun a q=>?_
 rcases or_b (decide ((a0.size : Int) ≥ 1)) with hb_85 | hb_85
 rw [ifb_t hb_85] at H
 refine zw q (wtt hb_85) (r_move q rfl) fun a q=>zw q (wtt hb_85) (r_len_str underlying9 q rfl) fun a q=>zw q (wtt hb_85) (r_ibin q rfl rfl rfl) fun a q=>zl q (r_pick_t hb_85 q rfl rfl) fun a q=>za q rfl fun a q=>zn ?_
 obtain rfl:=Option.some.inj H
 refine wp_ret ?_
 repeat first | refine zt ?_ | refine zb ?_ | refine zo ?_
 exact ret_1 results72 q (rv_tmp q rfl) ⟨rfl,s.bel⟩
 rw [ifb_f hb_85] at H
 refine zsw q (wtf hb_85) fun a q=>zsw q (wtf hb_85) fun a q=>zsw q (wtf hb_85) fun a q=>zl q (r_pick_f hb_85 q rfl rfl) fun a q=>za q rfl fun a q=>zn ?_
 obtain rfl:=Option.some.inj H
 refine wp_ret ?_
 repeat first | refine zt ?_ | refine zb ?_ | refine zo ?_
 exact ret_1 results72 q (rv_tmp q rfl) ⟨rfl,s.bel⟩
theorem table_Find_1_cp.calls (a0 : api_Col) (a1 : ByteArray) {w0 : World} {RA : Hp} {b1 : Nat} {o1 : Nat} (hRA : RA.sub w0) (hc1 : ∀ j u,([.string a1] : List Value)[j]? = some u → RA.cell b1 (o1 + j) = some u) {r : Bool} (H : table_Find_1_cp a0 a1 = some r) : CallsV prog 54 #[.agg #[.string a0.Name,I6 a0.Kind],.pointer (some ⟨b1,o1,none⟩)] w0 (.bool r):=by
 unfold table_Find_1_cp at H
 refine enter (args:=[.agg #[.string a0.Name,I6 a0.Kind],.pointer (some ⟨b1,o1,none⟩)]) func54 rfl ntmps54 rfl fun a q=>?_
 have s:=St.init (R:=fun _=>none) (w:=w0) (fun _ _ h=>by cases h)
 have hRL:=RLe.refl (M:=[]) w0 (fun _=>none)
 refine zq<|zr ?_
 refine sl_box s q (by decide) rfl rfl (c:=[.string a0.Name,I6 a0.Kind]) rfl fun a w b_1 s q=>?_
 refine za q rfl fun a q=>zn<|zq<|zr<|zl q (r_fieldAddr underlying47 rfl sizeOf9 q rfl) fun a q=>zl q (r_load isAgg9 q rfl (s.cell z0 rfl)) fun a q=>zl q (r_load isAgg9 q rfl ((s.ra hRA nil_not).cell (hc1 0 _ rfl))) fun a q=>zl q (r_sbin q rfl rfl rfl) fun a q=>za q rfl fun a q=>zn ?_
 obtain rfl:=Option.some.inj H
 refine wp_ret ?_
 repeat first | refine zt ?_ | refine zb ?_ | refine zo ?_
 exact ret_1 results54 q (rv_tmp q rfl) ⟨rfl,s.bel⟩
theorem slices_IndexFunc_api_Col_api_Col_f_table_Find_1p.calls (a0 : List api_Col) (a1_0 : ByteArray) {w0 : World} {RA : Hp} {v0_0 : Value} {b1q0 : Nat} {o1q0 : Nat} (hRA : RA.sub w0) (h0_0 : SlR ty_api_Col RA v0_0 a0) (hc1q0 : ∀ j u,([.string a1_0] : List Value)[j]? = some u → RA.cell b1q0 (o1q0 + j) = some u) {r : Int} (H : slices_IndexFunc_api_Col_api_Col_f_table_Find_1p a0 a1_0 = some r) : CallsV prog 53 #[v0_0,.func (.func 54) #[] #[.pointer (some ⟨b1q0,o1q0,none⟩)]] w0 (I6 r):=by
 unfold slices_IndexFunc_api_Col_api_Col_f_table_Find_1p at H
 refine enter (args:=[v0_0,.func (.func 54) #[] #[.pointer (some ⟨b1q0,o1q0,none⟩)]]) func53 rfl ntmps53 rfl fun a q=>?_
 have s:=St.init (R:=fun _=>none) (w:=w0) (fun _ _ h=>by cases h)
 have hRL:=RLe.refl (M:=[]) w0 (fun _=>none)
 refine zq<|zr<|za q rfl fun a q=>zn<|zq<|zq<|zr<|zm q rfl fun a q=>zl q (r_len_R underlying22 h0_0 q rfl) fun a q=>zm q rfl fun a q=>zn ?_
 refine wp_block ?_
 refine wp_loop_k (fun k_l0 a w=>∃ (x_15 : Int),slices_IndexFunc_api_Col_api_Col_f_table_Find_1p.l0 a0 a1_0 k_l0 x_15 = some r ∧ Kn 19 a [(0,v0_0),(1,.func (.func 54) #[] #[.pointer (some ⟨b1q0,o1q0,none⟩)]),(7,I6 (a0.length : Int)),(8,I6 x_15)] ∧ St [] w0 w (fun _=>none) []) (((a0.length : Int) - 0).toNat + 1) ?_ ?_
 exact ⟨0,H,q.sub (zc (zc (zc (zc zz)))),s⟩
 rintro k_l0 a w ⟨x_15,H,q,s⟩
 rcases k_l0 with _ | k_l0
 cases H
 rw [slices_IndexFunc_api_Col_api_Col_f_table_Find_1p.l0.eq_2] at H
 refine zq<|zr<|zl q (r_ibin q rfl rfl rfl) fun a q=>zn<|zq ?_
 refine wp_cond_split (q.ev rfl) (fun (hb_30 : (decide (x_15 < (a0.length : Int))) = true)=>?_) fun hb_30=>?_
 rw [ifb_t hb_30] at H
 refine wp_skip<|zq ?_
 refine wp_block ?_
 refine zq<|zr<|zm q rfl fun a q=>za q rfl fun a q=>zn<|zq<|zr<|zm q rfl fun a q=>zm q rfl fun a q=>zm q rfl fun a q=>?_
 obtain ⟨y_31,h_32,H⟩:=bs H
 obtain ⟨b_33,o_34,c_35,cs_36,hv_37,hr_38,hc_39,h_320,h_321⟩:=h0_0.ix h_32
 subst hr_38
 refine zl q (r_indexAddr_R underlying22 sizeOf47 hv_37 h_320 h_321 q rfl rfl) fun a q=>zl q (r_loadA (cs:=[.string y_31.Name,I6 y_31.Kind]) isAgg47 sizeOf47 rfl q rfl (fun j v hv=>(s.ra hRA nil_not).cell (hc_39 j v hv))) fun a q=>?_
 obtain ⟨y_40,h_41,H⟩:=bs H
 refine sl_callV call54 s q (by decide) rfl rfl rfl (table_Find_1_cp.calls y_31 a1_0 (lentOf_sub [] _) (fun j u hu=>Hp.cell_le (s.raLe0 hRA nil_not) (hc1q0 j u hu)) h_41) fun a w s q=>?_
 refine zn ?_
 refine wp_cond_split (q.ev rfl) (fun (hb_42 : y_40 = true)=>?_) fun hb_42=>?_
 rw [ifb_t hb_42] at H
 refine zq<|zr<|zm q rfl fun a q=>za q rfl fun a q=>zn ?_
 obtain rfl:=Option.some.inj H
 refine wp_ret ?_
 repeat first | refine zt ?_ | refine zb ?_ | refine zo ?_
 exact ret_1 results53 q (rv_tmp q rfl) ⟨rfl,s.bel⟩
 rw [ifb_f hb_42] at H
 refine wp_skip<|zr<|zl q (r_ibin q rfl rfl rfl) fun a q=>zm q rfl fun a q=>zn ?_
 exact ⟨_,Nat.lt_succ_self _,(IntKind.i64.wrap (x_15 + 1)),H,q.sub (zc (zc (zc (zc zz)))),s⟩
 rw [ifb_f hb_30] at H
 refine wp_exit ?_
 refine zq<|zr<|za q rfl fun a q=>zn ?_
 obtain rfl:=Option.some.inj H
 refine wp_ret ?_
 repeat first | refine zt ?_ | refine zb ?_ | refine zo ?_
 exact ret_1 results53 q (rv_tmp q rfl) ⟨rfl,s.bel⟩
theorem table_Find.calls (a0 : List api_Col) (a1 : ByteArray) {w0 : World} {RA : Hp} {v0_0 : Value} (hRA : RA.sub w0) (h0_0 : SlR ty_api_Col RA v0_0 a0) {r : Int} (H : table_Find a0 a1 = some r) : CallsV prog 33 #[v0_0,.string a1] w0 (I6 r):=by
 unfold table_Find at H
 refine enter (args:=[v0_0,.string a1]) func33 rfl ntmps33 rfl fun a q=>?_
 have s:=St.init (R:=fun _=>none) (w:=w0) (fun _ _ h=>by cases h)
 have hRL:=RLe.refl (M:=[]) w0 (fun _=>none)
 refine zq<|zr ?_
 refine sl_box s q (by decide) rfl rfl (c:=[.string a1]) rfl fun a w b_1 s q=>?_
 refine za q rfl fun a q=>zn<|zq<|zr<|zm q rfl fun a q=>zl q (r_func (us:=[]) (vs:=[.pointer (some ⟨b_1,0,none⟩)]) rfl (q.evs rfl)) fun a q=>?_
 obtain ⟨y_2,h_3,H⟩:=bs H
 refine sl_callV call53 s q (by decide) rfl rfl rfl (slices_IndexFunc_api_Col_api_Col_f_table_Find_1p.calls a0 a1 (lentOf_sub [] _) (h0_0.mono (s.raLe0 hRA nil_not)) (s.lend_box0 z0) h_3) fun a w s q=>?_
 refine za q rfl fun a q=>zn ?_
 obtain rfl:=Option.some.inj H
 refine wp_ret ?_
 repeat first | refine zt ?_ | refine zb ?_ | refine zo ?_
 exact ret_1 results33 q (rv_tmp q rfl) ⟨rfl,s.bel⟩
theorem table_columns.calls (a0 : List api_Col) {w0 : World} {RA : Hp} {v0_0 : Value} (hRA : RA.sub w0) (h0_0 : SlR ty_api_Col RA v0_0 a0) {r : Bool} (H : table_columns a0 = some r) : CallsV prog 49 #[v0_0] w0 (.bool r):=by
 unfold table_columns at H
 refine enter (args:=[v0_0]) func49 rfl ntmps49 rfl fun a q=>?_
 have s:=St.init (R:=fun _=>none) (w:=w0) (fun _ _ h=>by cases h)
 have hRL:=RLe.refl (M:=[]) w0 (fun _=>none)
 refine zq<|zr<|za q rfl fun a q=>zn<|zq<|zq<|zr<|zm q rfl fun a q=>zl q (r_len_R underlying22 h0_0 q rfl) fun a q=>zm q rfl fun a q=>zn ?_
 refine wp_block ?_
 refine wp_loop_k (fun k_l0 a w=>∃ (x_30 : Int),table_columns.l0 a0 k_l0 x_30 = some r ∧ Kn 43 a [(0,v0_0),(5,v0_0),(6,I6 (a0.length : Int)),(7,I6 x_30)] ∧ St [] w0 w (fun _=>none) []) (((a0.length : Int) - 0).toNat + 1) ?_ ?_
 exact ⟨0,H,q.sub (zc (zc (zc (zc zz)))),s⟩
 rintro k_l0 a w ⟨x_30,H,q,s⟩
 rcases k_l0 with _ | k_l0
 cases H
 rw [table_columns.l0.eq_2] at H
 refine zq<|zr<|zl q (r_ibin q rfl rfl rfl) fun a q=>zn<|zq ?_
 refine wp_cond_split (q.ev rfl) (fun (hb_60 : (decide (x_30 < (a0.length : Int))) = true)=>?_) fun hb_60=>?_
 rw [ifb_t hb_60] at H
 refine wp_skip<|zq ?_
 refine wp_block ?_
 refine zq<|zr<|zm q rfl fun a q=>?_
 obtain ⟨y_61,h_62,H⟩:=bs H
 obtain ⟨b_63,o_64,c_65,cs_66,hv_67,hr_68,hc_69,h_620,h_621⟩:=h0_0.ix h_62
 subst hr_68
 refine zl q (r_indexAddr_R underlying22 sizeOf47 hv_67 h_620 h_621 q rfl rfl) fun a q=>zl q (r_loadA (cs:=[.string y_61.Name,I6 y_61.Kind]) isAgg47 sizeOf47 rfl q rfl (fun j v hv=>(s.ra hRA nil_not).cell (hc_69 j v hv))) fun a q=>?_
 refine sl_alloc zeroValue47 s q (by decide) rfl rfl fun a w b_70 s q=>?_
 refine za q rfl fun a q=>?_
 refine sl_storeA (vs:=[.string y_61.Name,I6 y_61.Kind]) (c':=[.string y_61.Name,I6 y_61.Kind]) sizeOf47 s q rfl rfl rfl rfl (zc (zc zz)) (Nat.le_of_ble_eq_true rfl) rfl fun a w s q=>?_
 refine zn<|zq ?_
 refine wp_mid (fun a w=>∃ (x_78 : Bool),table_columns.j1 (table_columns.l0 a0 k_l0) a0 x_30 x_78 = some r ∧ Kn 43 a [(0,v0_0),(5,v0_0),(6,I6 (a0.length : Int)),(7,I6 x_30),(33,.bool x_78)] ∧ St [] w0 w (fun _=>none) []) ?_ ?_
 refine zr<|zl q (r_fieldAddr underlying47 rfl sizeOf9 q rfl) fun a q=>zl q (r_load isAgg9 q rfl (s.cell z0 rfl)) fun a q=>?_
 obtain ⟨y_80,h_81,H⟩:=bs H
 refine sl_callV call72 s q (by decide) rfl rfl rfl (table_Name.calls y_61.Name h_81 _) fun a w s q=>?_
 refine zl q (r_un q rfl (u_not _)) fun a q=>zm q rfl fun a q=>?_
 rcases or_b (!y_80) with hb_82 | hb_82
 rw [ifb_t hb_82] at H
 refine zsw q (wft hb_82) fun a q=>zsw q (wft hb_82) fun a q=>zsw q (wft hb_82) fun a q=>zl q (r_pick_t hb_82 q rfl rfl) fun a q=>zm q rfl fun a q=>zs q fun a q=>zs q fun a q=>zs q fun a q=>zl q (r_pick q rfl rfl rfl) fun a q=>zm q rfl fun a q=>zs q fun a q=>zs q fun a q=>zs q fun a q=>zs q fun a q=>zs q fun a q=>zs q fun a q=>zl q (r_pick q rfl rfl rfl) fun a q=>zn ?_
 exact ⟨true,H,q.sub (zc (zc (zc (zc (zc zz))))),s.trunc 0⟩
 rw [ifb_f hb_82] at H
 refine zw q (wff hb_82) (r_fieldAddr underlying47 rfl sizeOf3 q rfl) fun a q=>zw q (wff hb_82) (r_load isAgg3 q rfl (s.cell z0 rfl)) fun a q=>zw q (wff hb_82) (r_ibin q rfl rfl rfl) fun a q=>zl q (r_pick_f hb_82 q rfl rfl) fun a q=>zm q rfl fun a q=>?_
 rcases or_b (decide (y_61.Kind < 1)) with hb_83 | hb_83
 rw [ifb_t hb_83] at H
 refine zsw q (wft hb_83) fun a q=>zsw q (wft hb_83) fun a q=>zsw q (wft hb_83) fun a q=>zl q (r_pick_t hb_83 q rfl rfl) fun a q=>zm q rfl fun a q=>zs q fun a q=>zs q fun a q=>zs q fun a q=>zs q fun a q=>zs q fun a q=>zs q fun a q=>zl q (r_pick q rfl rfl rfl) fun a q=>zn ?_
 exact ⟨true,H,q.sub (zc (zc (zc (zc (zc zz))))),s.trunc 0⟩
 rw [ifb_f hb_83] at H
 refine zw q (wff hb_83) (r_fieldAddr underlying47 rfl sizeOf3 q rfl) fun a q=>zw q (wff hb_83) (r_load isAgg3 q rfl (s.cell z0 rfl)) fun a q=>zw q (wff hb_83) (r_ibin q rfl rfl rfl) fun a q=>zl q (r_pick_f hb_83 q rfl rfl) fun a q=>zm q rfl fun a q=>?_
 rcases or_b (decide (y_61.Kind > 4)) with hb_84 | hb_84
 rw [ifb_t hb_84] at H
 refine zsw q (wft hb_84) fun a q=>zsw q (wft hb_84) fun a q=>zsw q (wft hb_84) fun a q=>zsw q (wft hb_84) fun a q=>zsw q (wft hb_84) fun a q=>zsw q (wft hb_84) fun a q=>zl q (r_pick_t hb_84 q rfl rfl) fun a q=>zn ?_
 exact ⟨true,H,q.sub (zc (zc (zc (zc (zc zz))))),s.trunc 0⟩
 rw [ifb_f hb_84] at H
 refine zw q (wff hb_84) (r_move q rfl) fun a q=>zw q (wff hb_84) (r_fieldAddr underlying47 rfl sizeOf9 q rfl) fun a q=>zw q (wff hb_84) (r_load isAgg9 q rfl (s.cell z0 rfl)) fun a q=>?_
 obtain ⟨y_85,h_86,H⟩:=bs H
 refine sl_callV call33 s q (by decide) (wff hb_84) rfl rfl (table_Find.calls a0 y_61.Name (lentOf_sub [] _) (h0_0.mono (s.raLe0 hRA nil_not)) h_86) fun a w s q=>?_
 refine zw q (wff hb_84) (r_move q rfl) fun a q=>zw q (wff hb_84) (r_ibin q rfl rfl rfl) fun a q=>zl q (r_pick_f hb_84 q rfl rfl) fun a q=>zn ?_
 exact ⟨(y_85 != x_30),H,q.sub (zc (zc (zc (zc (zc zz))))),s.trunc 0⟩
 rintro a w ⟨x_78,H,q,s⟩
 unfold table_columns.j1 at H
 refine wp_cond_split (q.ev rfl) (fun (hb_87 : x_78 = true)=>?_) fun hb_87=>?_
 rw [ifb_t hb_87] at H
 refine zq<|zr<|za q rfl fun a q=>zn ?_
 obtain rfl:=Option.some.inj H
 refine wp_ret ?_
 repeat first | refine zt ?_ | refine zb ?_ | refine zo ?_
 exact ret_1 results49 q (rv_tmp q rfl) ⟨rfl,s.bel⟩
 rw [ifb_f hb_87] at H
 refine wp_skip<|zr<|zl q (r_ibin q rfl rfl rfl) fun a q=>zm q rfl fun a q=>zn ?_
 exact ⟨_,Nat.lt_succ_self _,(IntKind.i64.wrap (x_30 + 1)),H,q.sub (zc (zc (zc (zc zz)))),s⟩
 rw [ifb_f hb_60] at H
 refine wp_exit ?_
 refine zq<|zr<|zm q rfl fun a q=>zl q (r_len_R underlying22 h0_0 q rfl) fun a q=>zl q (r_ibin q rfl rfl rfl) fun a q=>zm q rfl fun a q=>?_
 rcases or_b (decide ((a0.length : Int) ≥ 1)) with hb_88 | hb_88
 rw [ifb_t hb_88] at H
 refine zw q (wtt hb_88) (r_move q rfl) fun a q=>zw q (wtt hb_88) (r_len_R underlying22 h0_0 q rfl) fun a q=>zw q (wtt hb_88) (r_ibin q rfl rfl rfl) fun a q=>zl q (r_pick_t hb_88 q rfl rfl) fun a q=>za q rfl fun a q=>zn ?_
 obtain rfl:=Option.some.inj H
 refine wp_ret ?_
 repeat first | refine zt ?_ | refine zb ?_ | refine zo ?_
 exact ret_1 results49 q (rv_tmp q rfl) ⟨rfl,s.bel⟩
 rw [ifb_f hb_88] at H
 refine zsw q (wtf hb_88) fun a q=>zsw q (wtf hb_88) fun a q=>zsw q (wtf hb_88) fun a q=>zl q (r_pick_f hb_88 q rfl rfl) fun a q=>za q rfl fun a q=>zn ?_
 obtain rfl:=Option.some.inj H
 refine wp_ret ?_
 repeat first | refine zt ?_ | refine zb ?_ | refine zo ?_
 exact ret_1 results49 q (rv_tmp q rfl) ⟨rfl,s.bel⟩
theorem value_Valid.calls (a0 : api_Value) {r : Bool} (H : value_Valid a0 = some r) (w0 : World) : CallsV prog 50 #[.agg ⟨cV a0⟩] w0 (.bool r):=by
 unfold value_Valid at H
 refine enter (args:=[.agg ⟨cV a0⟩]) func50 rfl ntmps50 rfl fun a q=>?_
 have s:=St.init (R:=fun _=>none) (w:=w0) (fun _ _ h=>by cases h)
 have hRL:=RLe.refl (M:=[]) w0 (fun _=>none)
 refine zq<|zr ?_
 refine sl_box s q (by decide) rfl rfl (c:=(cV a0)) rfl fun a w b_1 s q=>?_
 refine za q rfl fun a q=>zn<|zq<|zr<|zl q (r_loadA (cs:=(cV a0)) isAgg52 sizeOf52 rfl q rfl (s.cells_of (m:=11) z0 rfl)) fun a q=>?_
 refine sl_alloc zeroValue52 s q (by decide) rfl rfl fun a w b_2 s q=>?_
 refine sl_storeA (vs:=(cV a0)) (c':=(cV a0)) sizeOf52 s q rfl rfl rfl rfl (zc (zc (zc (zc (zc (zc (zc (zc (zc (zc (zc zz))))))))))) (Nat.le_of_ble_eq_true rfl) rfl fun a w s q=>?_
 refine zn<|zq<|zr<|zl q (r_fieldAddr underlying52 rfl sizeOf3 q rfl) fun a q=>?_
 refine sl_store1 (c':=[I6 0,I6 a0.N,.string a0.S,I6 a0.H.a0,I6 a0.H.a1,I6 a0.H.a2,I6 a0.H.a3,I6 a0.H.a4,I6 a0.H.a5,I6 a0.H.a6,I6 a0.H.a7]) sizeOf3 s q rfl rfl rfl rfl (Nat.le_of_ble_eq_true rfl) rfl fun a w s q=>?_
 refine zn<|zq<|zr<|za q rfl fun a q=>zn<|zq<|zq<|zr<|zl q (r_fieldAddr underlying52 rfl sizeOf3 q rfl) fun a q=>zl q (r_load isAgg3 q rfl (s.cell z1 rfl)) fun a q=>zn ?_
 refine wp_block ?_
 refine zq<|zr<|zl q (r_ibin q rfl rfl rfl) fun a q=>za q rfl fun a q=>zn ?_
 refine wp_mid (fun a w=>∃ (x_59 : Int) (x_60 : ByteArray) (x_61 : Arr8) (x_62 : Bool),value_Valid.j0 x_59 x_60 x_61 x_62 = some r ∧ Kn 40 a [(3,.pointer (some ⟨b_2,0,none⟩)),(4,.bool x_62)] ∧ St [] w0 w (fun _=>none) [.cells b_2 [I6 0,I6 x_59,.string x_60,I6 x_61.a0,I6 x_61.a1,I6 x_61.a2,I6 x_61.a3,I6 x_61.a4,I6 x_61.a5,I6 x_61.a6,I6 x_61.a7] 52]) ?_ ?_
 refine wp_cond_split (q.ev rfl) (fun (hb_64 : (a0.Kind == 1) = true)=>?_) fun hb_64=>?_
 rw [ifb_t hb_64] at H
 refine zr<|zl q (r_fieldAddr underlying52 rfl sizeOf3 q rfl) fun a q=>?_
 refine sl_store1 (c':=[I6 0,I6 0,.string a0.S,I6 a0.H.a0,I6 a0.H.a1,I6 a0.H.a2,I6 a0.H.a3,I6 a0.H.a4,I6 a0.H.a5,I6 a0.H.a6,I6 a0.H.a7]) sizeOf3 s q rfl rfl rfl rfl (Nat.le_of_ble_eq_true rfl) rfl fun a w s q=>?_
 refine zn ?_
 exact ⟨0,a0.S,a0.H,true,H,q.sub (zc (zc zz)),s.trunc 1⟩
 rw [ifb_f hb_64] at H
 refine zq<|zr<|zl q (r_ibin q rfl rfl rfl) fun a q=>za q rfl fun a q=>zn ?_
 refine wp_mid (fun a w=>∃ (x_90 : Int) (x_91 : ByteArray) (x_92 : Arr8) (x_93 : Bool),value_Valid.j1 x_90 x_91 x_92 x_93 = some r ∧ Kn 40 a [(3,.pointer (some ⟨b_2,0,none⟩)),(4,.bool x_93)] ∧ St [] w0 w (fun _=>none) [.cells b_2 [I6 0,I6 x_90,.string x_91,I6 x_92.a0,I6 x_92.a1,I6 x_92.a2,I6 x_92.a3,I6 x_92.a4,I6 x_92.a5,I6 x_92.a6,I6 x_92.a7] 52]) ?_ ?_
 refine wp_cond_split (q.ev rfl) (fun (hb_95 : (a0.Kind == 2) = true)=>?_) fun hb_95=>?_
 rw [ifb_t hb_95] at H
 refine zq<|zr<|zl q (r_fieldAddr underlying52 rfl sizeOf9 q rfl) fun a q=>?_
 refine sl_store1 (c':=[I6 0,I6 a0.N,.string (⟨#[]⟩ : ByteArray),I6 a0.H.a0,I6 a0.H.a1,I6 a0.H.a2,I6 a0.H.a3,I6 a0.H.a4,I6 a0.H.a5,I6 a0.H.a6,I6 a0.H.a7]) sizeOf9 s q rfl rfl rfl rfl (Nat.le_of_ble_eq_true rfl) rfl fun a w s q=>?_
 refine zn<|zr<|zl q (r_fieldAddr underlying52 rfl sizeOf9 q rfl) fun a q=>zl q (r_load isAgg9 q rfl (s.cell z1 rfl)) fun a q=>zl q (r_len_str underlying9 q rfl) fun a q=>zl q (r_ibin q rfl rfl rfl) fun a q=>za q rfl fun a q=>zn ?_
 exact ⟨a0.N,(⟨#[]⟩ : ByteArray),a0.H,(decide ((a0.S.size : Int) ≤ 64)),H,q.sub (zc (zc zz)),s.trunc 1⟩
 rw [ifb_f hb_95] at H
 refine zq<|zr<|zl q (r_ibin q rfl rfl rfl) fun a q=>za q rfl fun a q=>zn ?_
 refine wp_mid (fun a w=>∃ (x_106 : Int) (x_107 : Arr8) (x_108 : Bool),value_Valid.j2 a0 x_106 x_107 x_108 = some r ∧ Kn 40 a [(3,.pointer (some ⟨b_2,0,none⟩)),(4,.bool x_108)] ∧ St [] w0 w (fun _=>none) [.cells b_2 [I6 0,I6 x_106,.string a0.S,I6 x_107.a0,I6 x_107.a1,I6 x_107.a2,I6 x_107.a3,I6 x_107.a4,I6 x_107.a5,I6 x_107.a6,I6 x_107.a7] 52]) ?_ ?_
 refine wp_cond_split (q.ev rfl) (fun (hb_110 : (a0.Kind == 3) = true)=>?_) fun hb_110=>?_
 rw [ifb_t hb_110] at H
 refine zq<|zr<|zl q (r_fieldAddr underlying52 rfl sizeOf3 q rfl) fun a q=>?_
 refine sl_store1 (c':=[I6 0,I6 0,.string a0.S,I6 a0.H.a0,I6 a0.H.a1,I6 a0.H.a2,I6 a0.H.a3,I6 a0.H.a4,I6 a0.H.a5,I6 a0.H.a6,I6 a0.H.a7]) sizeOf3 s q rfl rfl rfl rfl (Nat.le_of_ble_eq_true rfl) rfl fun a w s q=>?_
 refine zn ?_
 refine wp_mid (fun a w=>∃ (x_112 : Bool),value_Valid.j3 a0 x_112 = some r ∧ Kn 40 a [(3,.pointer (some ⟨b_2,0,none⟩)),(4,.bool x_112)] ∧ St [] w0 w (fun _=>none) [.cells b_2 [I6 0,I6 0,.string a0.S,I6 a0.H.a0,I6 a0.H.a1,I6 a0.H.a2,I6 a0.H.a3,I6 a0.H.a4,I6 a0.H.a5,I6 a0.H.a6,I6 a0.H.a7] 52]) ?_ ?_
 refine zr<|zl q (r_fieldAddr underlying52 rfl sizeOf3 q rfl) fun a q=>zl q (r_load isAgg3 q rfl (s.cell z1 rfl)) fun a q=>zl q (r_ibin q rfl rfl rfl) fun a q=>zm q rfl fun a q=>?_
 rcases or_b (a0.N == 0) with hb_114 | hb_114
 rw [ifb_t hb_114] at H
 refine zsw q (wft hb_114) fun a q=>zsw q (wft hb_114) fun a q=>zsw q (wft hb_114) fun a q=>zl q (r_pick_t hb_114 q rfl rfl) fun a q=>za q rfl fun a q=>zn ?_
 exact ⟨true,H,q.sub (zc (zc zz)),s.trunc 1⟩
 rw [ifb_f hb_114] at H
 refine zw q (wff hb_114) (r_fieldAddr underlying52 rfl sizeOf3 q rfl) fun a q=>zw q (wff hb_114) (r_load isAgg3 q rfl (s.cell z1 rfl)) fun a q=>zw q (wff hb_114) (r_ibin q rfl rfl rfl) fun a q=>zl q (r_pick_f hb_114 q rfl rfl) fun a q=>za q rfl fun a q=>zn ?_
 exact ⟨(a0.N == 1),H,q.sub (zc (zc zz)),s.trunc 1⟩
 rintro a w ⟨x_112,H,q,s⟩
 unfold value_Valid.j3 at H
 exact ⟨0,a0.H,x_112,H,q.sub (zc (zc zz)),s⟩
 rw [ifb_f hb_110] at H
 refine zq<|zr<|zl q (r_ibin q rfl rfl rfl) fun a q=>za q rfl fun a q=>zn ?_
 refine wp_mid (fun a w=>∃ (x_116 : Arr8) (x_117 : Bool),value_Valid.j4 a0 x_116 x_117 = some r ∧ Kn 40 a [(3,.pointer (some ⟨b_2,0,none⟩)),(4,.bool x_117)] ∧ St [] w0 w (fun _=>none) [.cells b_2 [I6 0,I6 a0.N,.string a0.S,I6 x_116.a0,I6 x_116.a1,I6 x_116.a2,I6 x_116.a3,I6 x_116.a4,I6 x_116.a5,I6 x_116.a6,I6 x_116.a7] 52]) ?_ ?_
 refine wp_cond_split (q.ev rfl) (fun (hb_119 : (a0.Kind == 4) = true)=>?_) fun hb_119=>?_
 rw [ifb_t hb_119] at H
 refine zr<|zl q (r_buildAC (ps:=[]) (c:=[I6 0,I6 0,I6 0,I6 0,I6 0,I6 0,I6 0,I6 0]) underlying50 zeroValue50 sizeOf3 q rfl pc_nil rfl rfl) fun a q=>zl q (r_fieldAddr underlying52 rfl sizeOf50 q rfl) fun a q=>?_
 refine sl_storeA (vs:=[I6 0,I6 0,I6 0,I6 0,I6 0,I6 0,I6 0,I6 0]) (c':=[I6 0,I6 a0.N,.string a0.S,I6 0,I6 0,I6 0,I6 0,I6 0,I6 0,I6 0,I6 0]) sizeOf50 s q rfl rfl rfl rfl (zc (zc (zc (zc (zc (zc (zc (zc zz)))))))) (Nat.le_of_ble_eq_true rfl) rfl fun a w s q=>?_
 refine zn ?_
 exact ⟨(⟨0,0,0,0,0,0,0,0⟩ : Arr8),true,H,q.sub (zc (zc zz)),s.trunc 1⟩
 rw [ifb_f hb_119] at H
 refine zr<|za q rfl fun a q=>zn ?_
 exact ⟨a0.H,false,H,q.sub (zc (zc zz)),s.trunc 1⟩
 rintro a w ⟨x_116,x_117,H,q,s⟩
 unfold value_Valid.j4 at H
 exact ⟨a0.N,x_116,x_117,H,q.sub (zc (zc zz)),s⟩
 rintro a w ⟨x_106,x_107,x_108,H,q,s⟩
 unfold value_Valid.j2 at H
 exact ⟨x_106,a0.S,x_107,x_108,H,q.sub (zc (zc zz)),s⟩
 rintro a w ⟨x_90,x_91,x_92,x_93,H,q,s⟩
 unfold value_Valid.j1 at H
 exact ⟨x_90,x_91,x_92,x_93,H,q.sub (zc (zc zz)),s⟩
 rintro a w ⟨x_59,x_60,x_61,x_62,H,q,s⟩
 unfold value_Valid.j0 at H
 refine zq<|zr<|zm q rfl fun a q=>zm q rfl fun a q=>?_
 rcases or_b x_62 with hb_120 | hb_120
 rw [ifb_t hb_120] at H
 refine zw q (wtt hb_120) (r_loadA (cs:=[I6 0,I6 x_59,.string x_60,I6 x_61.a0,I6 x_61.a1,I6 x_61.a2,I6 x_61.a3,I6 x_61.a4,I6 x_61.a5,I6 x_61.a6,I6 x_61.a7]) isAgg52 sizeOf52 rfl q rfl (s.cells_of (m:=11) z0 rfl)) fun a q=>zw q (wtt hb_120) (r_buildC (ps:=[]) (c:=[I6 0,I6 0,.string (⟨#[]⟩ : ByteArray),I6 0,I6 0,I6 0,I6 0,I6 0,I6 0,I6 0,I6 0]) underlying52 zeroValue52 places52 q rfl pc_nil rfl rfl) fun a q=>zw q (wtt hb_120) (r_seq (by kernel_rfl) (eqs52 (⟨0,x_59,x_60,x_61⟩ : api_Value) (⟨0,0,(⟨#[]⟩ : ByteArray),(⟨0,0,0,0,0,0,0,0⟩ : Arr8)⟩ : api_Value)) q rfl rfl) fun a q=>?_
 refine zl q (r_pick_t hb_120 q rfl rfl) fun a q=>za q rfl fun a q=>zn ?_
 obtain rfl:=Option.some.inj H
 refine wp_ret ?_
 repeat first | refine zt ?_ | refine zb ?_ | refine zo ?_
 exact ret_1 results50 q (rv_tmp q rfl) ⟨rfl,s.bel⟩
 rw [ifb_f hb_120] at H
 refine zsw q (wtf hb_120) fun a q=>zsw q (wtf hb_120) fun a q=>zsw q (wtf hb_120) fun a q=>zl q (r_pick_f hb_120 q rfl rfl) fun a q=>za q rfl fun a q=>zn ?_
 obtain rfl:=Option.some.inj H
 refine wp_ret ?_
 repeat first | refine zt ?_ | refine zb ?_ | refine zo ?_
 exact ret_1 results50 q (rv_tmp q rfl) ⟨rfl,s.bel⟩
theorem table_Check.calls (a0 : api_Table) {w0 : World} {RA : Hp} {v0_0 : Value} {v0_1 : Value} (hRA : RA.sub w0) (h0_0 : SlR ty_api_Col RA v0_0 a0.Cols) (h0_1 : SlR (tySl ty_api_Value) RA v0_1 a0.Rows) {r : Int} (H : table_Check a0 = some r) : CallsV prog 28 #[.agg #[v0_0,v0_1]] w0 (I6 r):=by
 unfold table_Check at H
 refine enter (args:=[.agg #[v0_0,v0_1]]) func28 rfl ntmps28 rfl fun a q=>?_
 have s:=St.init (R:=fun _=>none) (w:=w0) (fun _ _ h=>by cases h)
 have hRL:=RLe.refl (M:=[]) w0 (fun _=>none)
 refine zq<|zr ?_
 refine sl_box s q (by decide) rfl rfl (c:=[v0_0,v0_1]) rfl fun a w b_1 s q=>?_
 refine za q rfl fun a q=>zn<|zq<|zq<|zr<|zl q (r_fieldAddr underlying35 rfl sizeOf22 q rfl) fun a q=>zl q (r_load isAgg22 q rfl (s.cell z0 rfl)) fun a q=>?_
 obtain ⟨y_2,h_3,H⟩:=bs H
 refine sl_callV call49 s q (by decide) rfl rfl rfl (table_columns.calls a0.Cols (lentOf_sub [] _) (h0_0.mono (s.raLe0 hRA nil_not)) h_3) fun a w s q=>?_
 refine zl q (r_un q rfl (u_not _)) fun a q=>zn ?_
 refine wp_cond_split (q.ev rfl) (fun (hb_4 : (!y_2) = true)=>?_) fun hb_4=>?_
 rw [ifb_t hb_4] at H
 refine zq<|zr<|za q rfl fun a q=>zn ?_
 obtain rfl:=Option.some.inj H
 refine wp_ret ?_
 repeat first | refine zt ?_ | refine zb ?_ | refine zo ?_
 exact ret_1 results28 q (rv_tmp q rfl) ⟨rfl,s.bel⟩
 rw [ifb_f hb_4] at H
 refine wp_skip<|zq<|zq<|zr<|zl q (r_fieldAddr underlying35 rfl sizeOf33 q rfl) fun a q=>zl q (r_load isAgg33 q rfl (s.cell z0 rfl)) fun a q=>zl q (r_len_R underlying33 h0_1 q rfl) fun a q=>zm q rfl fun a q=>zn ?_
 refine wp_block ?_
 refine wp_loop_k (fun k_l0 a w=>∃ (x_208 : Int),table_Check.l0 a0 k_l0 x_208 = some r ∧ Kn 47 a [(1,.pointer (some ⟨b_1,0,none⟩)),(12,v0_1),(13,I6 (a0.Rows.length : Int)),(14,I6 x_208)] ∧ St [] w0 w (fun _=>none) [.cells b_1 [v0_0,v0_1] 35]) (((a0.Rows.length : Int) - 0).toNat + 1) ?_ ?_
 exact ⟨0,H,q.sub (zc (zc (zc (zc zz)))),s⟩
 rintro k_l0 a w ⟨x_208,H,q,s⟩
 rcases k_l0 with _ | k_l0
 cases H
 rw [table_Check.l0.eq_2] at H
 refine zq<|zr<|zl q (r_ibin q rfl rfl rfl) fun a q=>zn<|zq ?_
 refine wp_cond_split (q.ev rfl) (fun (hb_412 : (decide (x_208 < (a0.Rows.length : Int))) = true)=>?_) fun hb_412=>?_
 rw [ifb_t hb_412] at H
 refine wp_skip<|zq ?_
 refine wp_block ?_
 refine zq<|zr ?_
 obtain ⟨y_413,h_414,H⟩:=bs H
 obtain ⟨b_415,o_416,c_417,cs_418,hv_419,hr_420,hc_421,h_4140,h_4141⟩:=h0_1.ix h_414
 obtain ⟨v_422,rfl,hs_423⟩:=hr_420
 refine zl q (r_indexAddr_R underlying33 sizeOf53 hv_419 h_4140 h_4141 q rfl rfl) fun a q=>zl q (r_load isAgg53 q rfl ((s.ra hRA nil_not).cell (hc_421 0 _ rfl))) fun a q=>za q rfl fun a q=>zn<|zq<|zq<|zr<|zm q rfl fun a q=>zl q (r_len_R underlying53 hs_423 q rfl) fun a q=>zl q (r_fieldAddr underlying35 rfl sizeOf22 q rfl) fun a q=>zl q (r_load isAgg22 q rfl (s.cell z0 rfl)) fun a q=>zl q (r_len_R underlying22 h0_0 q rfl) fun a q=>zl q (r_ibin q rfl rfl rfl) fun a q=>zn ?_
 refine wp_cond_split (q.ev rfl) (fun (hb_424 : ((y_413.length : Int) != (a0.Cols.length : Int)) = true)=>?_) fun hb_424=>?_
 rw [ifb_t hb_424] at H
 refine zq<|zr<|za q rfl fun a q=>zn ?_
 obtain rfl:=Option.some.inj H
 refine wp_ret ?_
 repeat first | refine zt ?_ | refine zb ?_ | refine zo ?_
 exact ret_1 results28 q (rv_tmp q rfl) ⟨rfl,s.bel⟩
 rw [ifb_f hb_424] at H
 refine wp_skip<|zq<|zr<|zm q rfl fun a q=>zl q (r_len_R underlying53 hs_423 q rfl) fun a q=>zm q rfl fun a q=>zn ?_
 refine wp_block ?_
 refine wp_loop_k (fun k_l1 a w=>∃ (x_488 : Int),table_Check.l1 (table_Check.l0 a0 k_l0) a0 x_208 y_413 k_l1 x_488 = some r ∧ Kn 47 a [(1,.pointer (some ⟨b_1,0,none⟩)),(12,v0_1),(13,I6 (a0.Rows.length : Int)),(14,I6 x_208),(24,v_422),(25,I6 (y_413.length : Int)),(26,I6 x_488)] ∧ St [] w0 w (fun _=>none) [.cells b_1 [v0_0,v0_1] 35]) (((y_413.length : Int) - 0).toNat + 1) ?_ ?_
 exact ⟨0,H,q.sub (zc (zc (zc (zc (zc (zc (zc zz))))))),s⟩
 rintro k_l1 a w ⟨x_488,H,q,s⟩
 rcases k_l1 with _ | k_l1
 cases H
 rw [table_Check.l1.eq_2] at H
 refine zq<|zr<|zl q (r_ibin q rfl rfl rfl) fun a q=>zn<|zq ?_
 refine wp_cond_split (q.ev rfl) (fun (hb_552 : (decide (x_488 < (y_413.length : Int))) = true)=>?_) fun hb_552=>?_
 rw [ifb_t hb_552] at H
 refine wp_skip<|zq ?_
 refine wp_block ?_
 refine zq<|zr<|zm q rfl fun a q=>?_
 obtain ⟨y_553,h_554,H⟩:=bs H
 obtain ⟨b_555,o_556,c_557,cs_558,hv_559,hr_560,hc_561,h_5540,h_5541⟩:=hs_423.ix h_554
 subst hr_560
 refine zl q (r_indexAddr_R underlying53 sizeOf52 hv_559 h_5540 h_5541 q rfl rfl) fun a q=>zl q (r_loadA (cs:=(cV y_553)) isAgg52 sizeOf52 rfl q rfl (fun j v hv=>(s.ra hRA nil_not).cell (hc_561 j v hv))) fun a q=>?_
 refine sl_alloc zeroValue52 s q (by decide) rfl rfl fun a w b_562 s q=>?_
 refine za q rfl fun a q=>?_
 refine sl_storeA (vs:=(cV y_553)) (c':=(cV y_553)) sizeOf52 s q rfl rfl rfl rfl (zc (zc (zc (zc (zc (zc (zc (zc (zc (zc (zc zz))))))))))) (Nat.le_of_ble_eq_true rfl) rfl fun a w s q=>?_
 refine zn<|zq ?_
 refine wp_mid (fun a w=>∃ (x_587 : Bool),table_Check.j2 (table_Check.l1 (table_Check.l0 a0 k_l0) a0 x_208 y_413 k_l1) y_413 x_488 x_587 = some r ∧ Kn 47 a [(1,.pointer (some ⟨b_1,0,none⟩)),(12,v0_1),(13,I6 (a0.Rows.length : Int)),(14,I6 x_208),(24,v_422),(25,I6 (y_413.length : Int)),(26,I6 x_488),(44,.bool x_587)] ∧ St [] w0 w (fun _=>none) [.cells b_1 [v0_0,v0_1] 35]) ?_ ?_
 refine parT_region (C:=fun w=>St [] w0 w (fun _=>none) [.cells b_562 (cV y_553) 52,.cells b_1 [v0_0,v0_1] 35]) 8 [(0,true),(1,true),(2,true),(3,true),(4,true),(5,true),(6,true),(7,true)] mixed (by kernel_rfl) s (fun w s=>s) fun w s=>?_
 refine zp rfl q (fun w s=>r_fieldAddr underlying52 rfl sizeOf3 q rfl) fun a q=>zp rfl q (fun w s=>r_load isAgg3 q rfl (s.cell z0 rfl)) fun a q=>zp rfl q (fun w s=>r_fieldAddr underlying35 rfl sizeOf22 q rfl) fun a q=>zp rfl q (fun w s=>r_load isAgg22 q rfl (s.cell z1 rfl)) fun a q=>zp rfl q (fun w s=>r_move q rfl) fun a q=>?_
 obtain ⟨y_601,h_602,H⟩:=bs H
 obtain ⟨b_603,o_604,c_605,cs_606,hv_607,hr_608,hc_609,h_6020,h_6021⟩:=h0_0.ix h_602
 subst hr_608
 refine zp rfl q (fun w s=>r_indexAddr_R underlying22 sizeOf47 hv_607 h_6020 h_6021 q rfl rfl) fun a q=>zp rfl q (fun w s=>r_fieldAddr underlying47 rfl sizeOf3 q rfl) fun a q=>zp rfl q (fun w s=>r_load isAgg3 q rfl ((s.ra hRA nil_not).cell (hc_609 1 _ rfl))) fun a q=>?_
 refine thenL_nil ?_
 refine zl q (r_ibin q rfl rfl rfl) fun a q=>zm q rfl fun a q=>?_
 rcases or_b (y_553.Kind != y_601.Kind) with hb_610 | hb_610
 rw [ifb_t hb_610] at H
 refine zsw q (wft hb_610) fun a q=>zsw q (wft hb_610) fun a q=>zsw q (wft hb_610) fun a q=>zl q (r_pick_t hb_610 q rfl rfl) fun a q=>?_
 refine wpList_nil (NoP_nil ?_)
 have s:=s.pk1
 exact ⟨true,H,q.sub (zc (zc (zc (zc (zc (zc (zc (zc zz)))))))),s.trunc 1⟩
 rw [ifb_f hb_610] at H
 refine zw q (wff hb_610) (r_loadA (cs:=(cV y_553)) isAgg52 sizeOf52 rfl q rfl (s.cells_of (m:=11) z0 rfl)) fun a q=>?_
 obtain ⟨y_611,h_612,H⟩:=bs H
 refine sl_callV call50 s q (by decide) (wff hb_610) rfl rfl (value_Valid.calls y_553 h_612 _) fun a w s q=>?_
 refine zw q (wff hb_610) (r_un q rfl (u_not _)) fun a q=>zl q (r_pick_f hb_610 q rfl rfl) fun a q=>?_
 refine wpList_nil (NoP_nil ?_)
 have s:=s.pk1
 exact ⟨(!y_611),H,q.sub (zc (zc (zc (zc (zc (zc (zc (zc zz)))))))),s.trunc 1⟩
 rintro a w ⟨x_587,H,q,s⟩
 unfold table_Check.j2 at H
 refine wp_cond_split (q.ev rfl) (fun (hb_613 : x_587 = true)=>?_) fun hb_613=>?_
 rw [ifb_t hb_613] at H
 refine zq<|zr<|za q rfl fun a q=>zn ?_
 obtain rfl:=Option.some.inj H
 refine wp_ret ?_
 repeat first | refine zt ?_ | refine zb ?_ | refine zo ?_
 exact ret_1 results28 q (rv_tmp q rfl) ⟨rfl,s.bel⟩
 rw [ifb_f hb_613] at H
 refine wp_skip<|zr<|zl q (r_ibin q rfl rfl rfl) fun a q=>zm q rfl fun a q=>zn ?_
 exact ⟨_,Nat.lt_succ_self _,(IntKind.i64.wrap (x_488 + 1)),H,q.sub (zc (zc (zc (zc (zc (zc (zc zz))))))),s⟩
 rw [ifb_f hb_552] at H
 refine wp_exit ?_
 refine zr<|zl q (r_ibin q rfl rfl rfl) fun a q=>zm q rfl fun a q=>zn ?_
 exact ⟨_,Nat.lt_succ_self _,(IntKind.i64.wrap (x_208 + 1)),H,q.sub (zc (zc (zc (zc zz)))),s⟩
 rw [ifb_f hb_412] at H
 refine wp_exit ?_
 refine zq<|zr<|za q rfl fun a q=>zn ?_
 obtain rfl:=Option.some.inj H
 refine wp_ret ?_
 repeat first | refine zt ?_ | refine zb ?_ | refine zo ?_
 exact ret_1 results28 q (rv_tmp q rfl) ⟨rfl,s.bel⟩
theorem check_below.calls (a0 : Int) {r : Int × Int} (H : check_below a0 = some r) (w0 : World) : CallsV prog 88 #[I6 a0] w0 (.tuple #[I6 r.1,I6 r.2]):=by
 unfold check_below at H
 refine enter (args:=[I6 a0]) func88 rfl ntmps88 rfl fun a q=>?_
 have s:=St.init (R:=fun _=>none) (w:=w0) (fun _ _ h=>by cases h)
 have hRL:=RLe.refl (M:=[]) w0 (fun _=>none)
 refine zq<|zr<|za q rfl fun a q=>za q rfl fun a q=>zn<|zq<|zq<|zr<|zm q rfl fun a q=>zn ?_
 refine wp_block ?_
 refine zq<|zq<|zr<|zl q (r_ibin q rfl rfl rfl) fun a q=>za q rfl fun a q=>zn ?_
 refine wp_mid (fun a w=>∃ (x_14 : Bool),check_below.j0 a0 x_14 = some r ∧ Kn 25 a [(4,I6 a0),(5,.bool x_14)] ∧ St [] w0 w (fun _=>none) []) ?_ ?_
 refine wp_cond_split (q.ev rfl) (fun (hb_16 : (a0 == 1) = true)=>?_) fun hb_16=>?_
 rw [ifb_t hb_16] at H
 refine wp_skip ?_
 exact ⟨(a0 == 1),H,q.sub (zc (zc zz)),s⟩
 rw [ifb_f hb_16] at H
 refine zq<|zr<|zl q (r_ibin q rfl rfl rfl) fun a q=>za q rfl fun a q=>zn ?_
 refine wp_mid (fun a w=>∃ (x_22 : Bool),check_below.j1 a0 x_22 = some r ∧ Kn 25 a [(4,I6 a0),(5,.bool x_22)] ∧ St [] w0 w (fun _=>none) []) ?_ ?_
 refine wp_cond_split (q.ev rfl) (fun (hb_24 : (a0 == 9) = true)=>?_) fun hb_24=>?_
 rw [ifb_t hb_24] at H
 refine wp_skip ?_
 exact ⟨(a0 == 9),H,q.sub (zc (zc zz)),s⟩
 rw [ifb_f hb_24] at H
 refine zq<|zr<|zl q (r_ibin q rfl rfl rfl) fun a q=>za q rfl fun a q=>zn ?_
 refine wp_mid (fun a w=>∃ (x_26 : Bool),check_below.j2 a0 x_26 = some r ∧ Kn 25 a [(4,I6 a0),(5,.bool x_26)] ∧ St [] w0 w (fun _=>none) []) ?_ ?_
 refine wp_cond_split (q.ev rfl) (fun (hb_28 : (a0 == 14) = true)=>?_) fun hb_28=>?_
 rw [ifb_t hb_28] at H
 refine wp_skip ?_
 exact ⟨(a0 == 14),H,q.sub (zc (zc zz)),s⟩
 rw [ifb_f hb_28] at H
 refine zr<|zl q (r_ibin q rfl rfl rfl) fun a q=>za q rfl fun a q=>zn ?_
 exact ⟨(a0 == 15),H,q.sub (zc (zc zz)),s⟩
 rintro a w ⟨x_26,H,q,s⟩
 unfold check_below.j2 at H
 exact ⟨x_26,H,q.sub (zc (zc zz)),s⟩
 rintro a w ⟨x_22,H,q,s⟩
 unfold check_below.j1 at H
 exact ⟨x_22,H,q.sub (zc (zc zz)),s⟩
 rintro a w ⟨x_14,H,q,s⟩
 unfold check_below.j0 at H
 refine wp_cond_split (q.ev rfl) (fun (hb_29 : x_14 = true)=>?_) fun hb_29=>?_
 rw [ifb_t hb_29] at H
 refine zq<|zr<|za q rfl fun a q=>za q rfl fun a q=>zn ?_
 obtain rfl:=Option.some.inj H
 refine wp_ret ?_
 repeat first | refine zt ?_ | refine zb ?_ | refine zo ?_
 exact ret_2 results88 q (rv_tmp q rfl) (rv_tmp q rfl) ⟨rfl,s.bel⟩
 rw [ifb_f hb_29] at H
 refine zq<|zq<|zr<|zl q (r_ibin q rfl rfl rfl) fun a q=>za q rfl fun a q=>zn ?_
 refine wp_mid (fun a w=>∃ (x_43 : Bool),check_below.j3 a0 x_43 = some r ∧ Kn 25 a [(4,I6 a0),(10,.bool x_43)] ∧ St [] w0 w (fun _=>none) []) ?_ ?_
 refine wp_cond_split (q.ev rfl) (fun (hb_45 : (a0 == 3) = true)=>?_) fun hb_45=>?_
 rw [ifb_t hb_45] at H
 refine wp_skip ?_
 exact ⟨(a0 == 3),H,q.sub (zc (zc zz)),s⟩
 rw [ifb_f hb_45] at H
 refine zq<|zr<|zl q (r_ibin q rfl rfl rfl) fun a q=>za q rfl fun a q=>zn ?_
 refine wp_mid (fun a w=>∃ (x_51 : Bool),check_below.j4 a0 x_51 = some r ∧ Kn 25 a [(4,I6 a0),(10,.bool x_51)] ∧ St [] w0 w (fun _=>none) []) ?_ ?_
 refine wp_cond_split (q.ev rfl) (fun (hb_53 : (a0 == 4) = true)=>?_) fun hb_53=>?_
 rw [ifb_t hb_53] at H
 refine wp_skip ?_
 exact ⟨(a0 == 4),H,q.sub (zc (zc zz)),s⟩
 rw [ifb_f hb_53] at H
 refine zq<|zr<|zl q (r_ibin q rfl rfl rfl) fun a q=>za q rfl fun a q=>zn ?_
 refine wp_mid (fun a w=>∃ (x_55 : Bool),check_below.j5 a0 x_55 = some r ∧ Kn 25 a [(4,I6 a0),(10,.bool x_55)] ∧ St [] w0 w (fun _=>none) []) ?_ ?_
 refine wp_cond_split (q.ev rfl) (fun (hb_57 : (a0 == 5) = true)=>?_) fun hb_57=>?_
 rw [ifb_t hb_57] at H
 refine wp_skip ?_
 exact ⟨(a0 == 5),H,q.sub (zc (zc zz)),s⟩
 rw [ifb_f hb_57] at H
 refine zr<|zl q (r_ibin q rfl rfl rfl) fun a q=>za q rfl fun a q=>zn ?_
 exact ⟨(a0 == 6),H,q.sub (zc (zc zz)),s⟩
 rintro a w ⟨x_55,H,q,s⟩
 unfold check_below.j5 at H
 exact ⟨x_55,H,q.sub (zc (zc zz)),s⟩
 rintro a w ⟨x_51,H,q,s⟩
 unfold check_below.j4 at H
 exact ⟨x_51,H,q.sub (zc (zc zz)),s⟩
 rintro a w ⟨x_43,H,q,s⟩
 unfold check_below.j3 at H
 refine wp_cond_split (q.ev rfl) (fun (hb_58 : x_43 = true)=>?_) fun hb_58=>?_
 rw [ifb_t hb_58] at H
 refine zq<|zr<|za q rfl fun a q=>za q rfl fun a q=>zn ?_
 obtain rfl:=Option.some.inj H
 refine wp_ret ?_
 repeat first | refine zt ?_ | refine zb ?_ | refine zo ?_
 exact ret_2 results88 q (rv_tmp q rfl) (rv_tmp q rfl) ⟨rfl,s.bel⟩
 rw [ifb_f hb_58] at H
 refine zq<|zq<|zr<|zl q (r_ibin q rfl rfl rfl) fun a q=>za q rfl fun a q=>zn ?_
 refine wp_mid (fun a w=>∃ (x_60 : Bool),check_below.j6 a0 x_60 = some r ∧ Kn 25 a [(4,I6 a0),(15,.bool x_60)] ∧ St [] w0 w (fun _=>none) []) ?_ ?_
 refine wp_cond_split (q.ev rfl) (fun (hb_62 : (a0 == 7) = true)=>?_) fun hb_62=>?_
 rw [ifb_t hb_62] at H
 refine wp_skip ?_
 exact ⟨(a0 == 7),H,q.sub (zc (zc zz)),s⟩
 rw [ifb_f hb_62] at H
 refine zr<|zl q (r_ibin q rfl rfl rfl) fun a q=>za q rfl fun a q=>zn ?_
 exact ⟨(a0 == 8),H,q.sub (zc (zc zz)),s⟩
 rintro a w ⟨x_60,H,q,s⟩
 unfold check_below.j6 at H
 refine wp_cond_split (q.ev rfl) (fun (hb_63 : x_60 = true)=>?_) fun hb_63=>?_
 rw [ifb_t hb_63] at H
 refine zq<|zr<|za q rfl fun a q=>za q rfl fun a q=>zn ?_
 obtain rfl:=Option.some.inj H
 refine wp_ret ?_
 repeat first | refine zt ?_ | refine zb ?_ | refine zo ?_
 exact ret_2 results88 q (rv_tmp q rfl) (rv_tmp q rfl) ⟨rfl,s.bel⟩
 rw [ifb_f hb_63] at H
 refine zq<|zr<|zl q (r_ibin q rfl rfl rfl) fun a q=>za q rfl fun a q=>zn ?_
 refine wp_cond_split (q.ev rfl) (fun (hb_64 : (a0 == 2) = true)=>?_) fun hb_64=>?_
 rw [ifb_t hb_64] at H
 refine zq<|zr<|za q rfl fun a q=>za q rfl fun a q=>zn ?_
 obtain rfl:=Option.some.inj H
 refine wp_ret ?_
 repeat first | refine zt ?_ | refine zb ?_ | refine zo ?_
 exact ret_2 results88 q (rv_tmp q rfl) (rv_tmp q rfl) ⟨rfl,s.bel⟩
 rw [ifb_f hb_64] at H
 refine zq<|zr<|zl q (r_ibin q rfl rfl rfl) fun a q=>za q rfl fun a q=>zn ?_
 refine wp_cond_split (q.ev rfl) (fun (hb_65 : (a0 == 13) = true)=>?_) fun hb_65=>?_
 rw [ifb_t hb_65] at H
 refine zq<|zr<|za q rfl fun a q=>za q rfl fun a q=>zn ?_
 obtain rfl:=Option.some.inj H
 refine wp_ret ?_
 repeat first | refine zt ?_ | refine zb ?_ | refine zo ?_
 exact ret_2 results88 q (rv_tmp q rfl) (rv_tmp q rfl) ⟨rfl,s.bel⟩
 rw [ifb_f hb_65] at H
 refine zq<|zq<|zr<|zl q (r_ibin q rfl rfl rfl) fun a q=>za q rfl fun a q=>zn ?_
 refine wp_mid (fun a w=>∃ (x_67 : Bool),check_below.j7 x_67 = some r ∧ Kn 25 a [(22,.bool x_67)] ∧ St [] w0 w (fun _=>none) []) ?_ ?_
 refine wp_cond_split (q.ev rfl) (fun (hb_69 : (a0 == 11) = true)=>?_) fun hb_69=>?_
 rw [ifb_t hb_69] at H
 refine wp_skip ?_
 exact ⟨(a0 == 11),H,q.sub (zc zz),s⟩
 rw [ifb_f hb_69] at H
 refine zr<|zl q (r_ibin q rfl rfl rfl) fun a q=>za q rfl fun a q=>zn ?_
 exact ⟨(a0 == 12),H,q.sub (zc zz),s⟩
 rintro a w ⟨x_67,H,q,s⟩
 unfold check_below.j7 at H
 refine wp_cond_split (q.ev rfl) (fun (hb_70 : x_67 = true)=>?_) fun hb_70=>?_
 rw [ifb_t hb_70] at H
 refine zq<|zr<|za q rfl fun a q=>za q rfl fun a q=>zn ?_
 obtain rfl:=Option.some.inj H
 refine wp_ret ?_
 repeat first | refine zt ?_ | refine zb ?_ | refine zo ?_
 exact ret_2 results88 q (rv_tmp q rfl) (rv_tmp q rfl) ⟨rfl,s.bel⟩
 rw [ifb_f hb_70] at H
 refine wp_skip<|zq<|zr<|za q rfl fun a q=>za q rfl fun a q=>zn ?_
 obtain rfl:=Option.some.inj H
 refine wp_ret ?_
 repeat first | refine zt ?_ | refine zb ?_ | refine zo ?_
 exact ret_2 results88 q (rv_tmp q rfl) (rv_tmp q rfl) ⟨rfl,s.bel⟩
theorem check_checker_shaped.calls (a0 : check_checker) (a1 : Int) {w0 : World} {RA : Hp} {b0 : Nat} {o0 : Nat} {v0_0 : Value} {v0_1 : Value} {v0_2 : Value} {v0_3 : Value} (hRA : RA.sub w0) (hc0 : ∀ j u,([v0_0,v0_1,v0_2,v0_3] : List Value)[j]? = some u → RA.cell b0 (o0 + j) = some u) (h0_0 : SlR ty_api_Schema RA v0_0 a0.schemas) (h0_1 : SlR ty_api_Node RA v0_1 a0.n) (h0_2 : SlR (tySl ty_api_Col) RA v0_2 a0.inputs) (h0_3 : SlR (tySl ty_api_Col) RA v0_3 a0.cols) {r : Bool} (H : check_checker_shaped a0 a1 = some r) : CallsV prog 67 #[.pointer (some ⟨b0,o0,none⟩),I6 a1] w0 (.bool r):=by
 unfold check_checker_shaped at H
 refine enter (args:=[.pointer (some ⟨b0,o0,none⟩),I6 a1]) func67 rfl ntmps67 rfl fun a q=>?_
 have s:=St.init (R:=fun _=>none) (w:=w0) (fun _ _ h=>by cases h)
 have hRL:=RLe.refl (M:=[]) w0 (fun _=>none)
 refine zq<|zr<|za q rfl fun a q=>zn<|zq<|zr<|zm q rfl fun a q=>zl q (r_nilCheck q rfl) fun a q=>zl q (r_fieldAddr underlying80 rfl sizeOf59 q rfl) fun a q=>zl q (r_load isAgg59 q rfl ((s.ra hRA nil_not).cell (hc0 1 _ rfl))) fun a q=>zm q rfl fun a q=>?_
 obtain ⟨y_1,h_2,H⟩:=bs H
 obtain ⟨b_3,o_4,c_5,cs_6,hv_7,hr_8,hc_9,h_20,h_21⟩:=h0_1.ix h_2
 obtain ⟨v_10,v_12,v_14,rfl,hs_11,hs_13,hs_15⟩:=hr_8
 refine zl q (r_indexAddr_R underlying59 sizeOf58 hv_7 h_20 h_21 q rfl rfl) fun a q=>zl q (r_fieldAddr underlying58 rfl sizeOf3 q rfl) fun a q=>zl q (r_load isAgg3 q rfl ((s.ra hRA nil_not).cell (hc_9 0 _ rfl))) fun a q=>?_
 obtain ⟨y_16,h_17,H⟩:=bs H
 refine sl_callV call88 s q (by decide) rfl rfl rfl (check_below.calls y_1.Kind h_17 _) fun a w s q=>?_
 refine zm q rfl fun a q=>zl q (r_extract q rfl rfl) fun a q=>zl q (r_extract q rfl rfl) fun a q=>za q rfl fun a q=>za q rfl fun a q=>zn<|zq<|zr<|zm q rfl fun a q=>zl q (r_nilCheck q rfl) fun a q=>zl q (r_fieldAddr underlying80 rfl sizeOf59 q rfl) fun a q=>zl q (r_load isAgg59 q rfl ((s.ra hRA nil_not).cell (hc0 1 _ rfl))) fun a q=>zm q rfl fun a q=>?_
 obtain ⟨y_18,h_19,H⟩:=bs H
 obtain ⟨b_20,o_21,c_22,cs_23,hv_24,hr_25,hc_26,h_190,h_191⟩:=h0_1.ix h_19
 obtain ⟨v_27,v_29,v_31,rfl,hs_28,hs_30,hs_32⟩:=hr_25
 refine zl q (r_indexAddr_R underlying59 sizeOf58 hv_24 h_190 h_191 q rfl rfl) fun a q=>zl q (r_fieldAddr underlying58 rfl sizeOf43 q rfl) fun a q=>zl q (r_load isAgg43 q rfl ((s.ra hRA nil_not).cell (hc_26 16 _ rfl))) fun a q=>za q rfl fun a q=>zn<|zq<|zq ?_
 refine wp_mid (fun a w=>∃ (x_34 : Bool),check_checker_shaped.j0 a0 a1 y_16 y_18 x_34 = some r ∧ Kn 70 a [(0,.pointer (some ⟨b0,o0,none⟩)),(1,I6 a1),(5,I6 y_16.1),(7,v_27),(39,.bool x_34)] ∧ St [] w0 w (fun _=>none) []) ?_ ?_
 refine zr<|zm q rfl fun a q=>zl q (r_ibin q rfl rfl rfl) fun a q=>zm q rfl fun a q=>?_
 rcases or_b (decide (y_16.1 < 0)) with hb_36 | hb_36
 rw [ifb_t hb_36] at H
 refine zsw q (wft hb_36) fun a q=>zsw q (wft hb_36) fun a q=>zsw q (wft hb_36) fun a q=>zsw q (wft hb_36) fun a q=>zsw q (wft hb_36) fun a q=>zsw q (wft hb_36) fun a q=>zl q (r_pick_t hb_36 q rfl rfl) fun a q=>zn ?_
 exact ⟨true,H,q.sub (zc (zc (zc (zc (zc zz))))),s⟩
 rw [ifb_f hb_36] at H
 refine zw q (wff hb_36) (r_move q rfl) fun a q=>zw q (wff hb_36) (r_len_R underlying43 hs_28 q rfl) fun a q=>zw q (wff hb_36) (r_move q rfl) fun a q=>zw q (wff hb_36) (r_move q rfl) fun a q=>zw q (wff hb_36) (r_ibin q rfl rfl rfl) fun a q=>zw q (wff hb_36) (r_ibin q rfl rfl rfl) fun a q=>zl q (r_pick_f hb_36 q rfl rfl) fun a q=>zn ?_
 exact ⟨((y_18.L.length : Int) != (IntKind.i64.wrap (y_16.1 + y_16.2))),H,q.sub (zc (zc (zc (zc (zc zz))))),s⟩
 rintro a w ⟨x_34,H,q,s⟩
 unfold check_checker_shaped.j0 at H
 refine wp_cond_split (q.ev rfl) (fun (hb_37 : x_34 = true)=>?_) fun hb_37=>?_
 rw [ifb_t hb_37] at H
 refine zq<|zr<|za q rfl fun a q=>zn ?_
 obtain rfl:=Option.some.inj H
 refine wp_ret ?_
 repeat first | refine zt ?_ | refine zb ?_ | refine zo ?_
 exact ret_1 results67 q (rv_tmp q rfl) ⟨rfl,s.bel⟩
 rw [ifb_f hb_37] at H
 refine wp_skip<|zq<|zq<|zr<|zm q rfl fun a q=>zl q (r_len_R underlying43 hs_28 q rfl) fun a q=>zm q rfl fun a q=>zn ?_
 refine wp_block ?_
 refine wp_loop_k (fun k_l1 a w=>∃ (x_86 : Int),check_checker_shaped.l1 a0 a1 y_16 y_18 k_l1 x_86 = some r ∧ Kn 70 a [(0,.pointer (some ⟨b0,o0,none⟩)),(1,I6 a1),(5,I6 y_16.1),(40,v_27),(41,I6 (y_18.L.length : Int)),(42,I6 x_86)] ∧ St [] w0 w (fun _=>none) []) (((y_18.L.length : Int) - 0).toNat + 1) ?_ ?_
 exact ⟨0,H,q.sub (zc (zc (zc (zc (zc (zc zz)))))),s⟩
 rintro k_l1 a w ⟨x_86,H,q,s⟩
 rcases k_l1 with _ | k_l1
 cases H
 rw [check_checker_shaped.l1.eq_2] at H
 refine zq<|zr<|zl q (r_ibin q rfl rfl rfl) fun a q=>zn<|zq ?_
 refine wp_cond_split (q.ev rfl) (fun (hb_135 : (decide (x_86 < (y_18.L.length : Int))) = true)=>?_) fun hb_135=>?_
 rw [ifb_t hb_135] at H
 refine wp_skip<|zq ?_
 refine wp_block ?_
 refine zq<|zr<|zm q rfl fun a q=>?_
 obtain ⟨y_136,h_137,H⟩:=bs H
 obtain ⟨b_138,o_139,c_140,cs_141,hv_142,hr_143,hc_144,h_1370,h_1371⟩:=hs_28.ix h_137
 subst hr_143
 refine zl q (r_indexAddr_R underlying43 sizeOf3 hv_142 h_1370 h_1371 q rfl rfl) fun a q=>zl q (r_load isAgg3 q rfl ((s.ra hRA nil_not).cell (hc_144 0 _ rfl))) fun a q=>za q rfl fun a q=>za q rfl fun a q=>zn<|zq ?_
 refine wp_mid (fun a w=>∃ (x_162 : Bool),check_checker_shaped.j2 (check_checker_shaped.l1 a0 a1 y_16 y_18 k_l1) y_18 x_86 x_162 = some r ∧ Kn 70 a [(0,.pointer (some ⟨b0,o0,none⟩)),(1,I6 a1),(5,I6 y_16.1),(40,v_27),(41,I6 (y_18.L.length : Int)),(42,I6 x_86),(68,.bool x_162)] ∧ St [] w0 w (fun _=>none) []) ?_ ?_
 refine zr<|zm q rfl fun a q=>zl q (r_ibin q rfl rfl rfl) fun a q=>zm q rfl fun a q=>?_
 rcases or_b (decide (y_136 < 0)) with hb_164 | hb_164
 rw [ifb_t hb_164] at H
 refine zsw q (wft hb_164) fun a q=>zsw q (wft hb_164) fun a q=>zsw q (wft hb_164) fun a q=>zl q (r_pick_t hb_164 q rfl rfl) fun a q=>zm q rfl fun a q=>zs q fun a q=>zs q fun a q=>zs q fun a q=>zs q fun a q=>zs q fun a q=>zs q fun a q=>zs q fun a q=>zs q fun a q=>zs q fun a q=>zs q fun a q=>zs q fun a q=>zs q fun a q=>zs q fun a q=>zl q (r_pick q rfl rfl rfl) fun a q=>zn ?_
 exact ⟨true,H,q.sub (zc (zc (zc (zc (zc (zc (zc zz))))))),s⟩
 rw [ifb_f hb_164] at H
 refine zw q (wff hb_164) (r_move q rfl) fun a q=>zw q (wff hb_164) (r_move q rfl) fun a q=>zw q (wff hb_164) (r_ibin q rfl rfl rfl) fun a q=>zl q (r_pick_f hb_164 q rfl rfl) fun a q=>zm q rfl fun a q=>?_
 rcases or_b (decide (y_136 ≥ a1)) with hb_165 | hb_165
 rw [ifb_t hb_165] at H
 refine zsw q (wft hb_165) fun a q=>zsw q (wft hb_165) fun a q=>zsw q (wft hb_165) fun a q=>zsw q (wft hb_165) fun a q=>zsw q (wft hb_165) fun a q=>zsw q (wft hb_165) fun a q=>zsw q (wft hb_165) fun a q=>zsw q (wft hb_165) fun a q=>zsw q (wft hb_165) fun a q=>zsw q (wft hb_165) fun a q=>zsw q (wft hb_165) fun a q=>zsw q (wft hb_165) fun a q=>zsw q (wft hb_165) fun a q=>zl q (r_pick_t hb_165 q rfl rfl) fun a q=>zn ?_
 exact ⟨true,H,q.sub (zc (zc (zc (zc (zc (zc (zc zz))))))),s⟩
 rw [ifb_f hb_165] at H
 refine zw q (wff hb_165) (r_move q rfl) fun a q=>zw q (wff hb_165) (r_move q rfl) fun a q=>zw q (wff hb_165) (r_ibin q rfl rfl rfl) fun a q=>zw q (wff hb_165) (r_move q rfl) fun a q=>zw q (wff hb_165) (r_nilCheck q rfl) fun a q=>zw q (wff hb_165) (r_fieldAddr underlying80 rfl sizeOf59 q rfl) fun a q=>zw q (wff hb_165) (r_load isAgg59 q rfl ((s.ra hRA nil_not).cell (hc0 1 _ rfl))) fun a q=>zw q (wff hb_165) (r_move q rfl) fun a q=>?_
 obtain ⟨y_166,h_167,H⟩:=bs H
 obtain ⟨b_168,o_169,c_170,cs_171,hv_172,hr_173,hc_174,h_1670,h_1671⟩:=h0_1.ix h_167
 obtain ⟨v_175,v_177,v_179,rfl,hs_176,hs_178,hs_180⟩:=hr_173
 refine zw q (wff hb_165) (r_indexAddr_R underlying59 sizeOf58 hv_172 h_1670 h_1671 q rfl rfl) fun a q=>zw q (wff hb_165) (r_fieldAddr underlying58 rfl sizeOf3 q rfl) fun a q=>zw q (wff hb_165) (r_load isAgg3 q rfl ((s.ra hRA nil_not).cell (hc_174 0 _ rfl))) fun a q=>zw q (wff hb_165) (r_ibin q rfl rfl rfl) fun a q=>zw q (wff hb_165) (r_bne underlying4 q rfl rfl) fun a q=>zl q (r_pick_f hb_165 q rfl rfl) fun a q=>zn ?_
 exact ⟨(!((decide (x_86 ≥ y_16.1)) == (decide (y_166.Kind ≥ 11)))),H,q.sub (zc (zc (zc (zc (zc (zc (zc zz))))))),s⟩
 rintro a w ⟨x_162,H,q,s⟩
 unfold check_checker_shaped.j2 at H
 refine wp_cond_split (q.ev rfl) (fun (hb_181 : x_162 = true)=>?_) fun hb_181=>?_
 rw [ifb_t hb_181] at H
 refine zq<|zr<|za q rfl fun a q=>zn ?_
 obtain rfl:=Option.some.inj H
 refine wp_ret ?_
 repeat first | refine zt ?_ | refine zb ?_ | refine zo ?_
 exact ret_1 results67 q (rv_tmp q rfl) ⟨rfl,s.bel⟩
 rw [ifb_f hb_181] at H
 refine wp_skip<|zr<|zl q (r_ibin q rfl rfl rfl) fun a q=>zm q rfl fun a q=>zn ?_
 exact ⟨_,Nat.lt_succ_self _,(IntKind.i64.wrap (x_86 + 1)),H,q.sub (zc (zc (zc (zc (zc (zc zz)))))),s⟩
 rw [ifb_f hb_135] at H
 refine wp_exit ?_
 refine zq<|zr<|za q rfl fun a q=>zn ?_
 obtain rfl:=Option.some.inj H
 refine wp_ret ?_
 repeat first | refine zt ?_ | refine zb ?_ | refine zo ?_
 exact ret_1 results67 q (rv_tmp q rfl) ⟨rfl,s.bel⟩
theorem slices_Clone_api_Col_api_Col.calls (a0 : List api_Col) {w0 : World} {R : Hp} {RA : Hp} {v0_0 : Value} (hRA : RA.sub w0) (hR : R.sub w0) (h0_0 : SlR ty_api_Col RA v0_0 a0) {r : List api_Col} (H : slices_Clone_api_Col_api_Col a0 = some r) : Calls prog 26 #[v0_0] w0 (Rets fun v w'=>∃ (R' : Hp) (u0 : Value) (cu0 : List Value),v = u0 ∧ St [] w0 w' R' [.row 47 2 u0 r.length cu0] ∧ RLe [] w0 R R' ∧ Reps ty_api_Col R' cu0 r):=by
 unfold slices_Clone_api_Col_api_Col at H
 rcases SlR.nilcase h0_0 with ⟨hn,hx⟩ | ⟨ad_,m_,c_,hn⟩
 subst hx
 have H : some ([] : List api_Col) = some r:=by simpa [apd] using H
 refine enter (args:=[v0_0]) func26 rfl ntmps26 rfl fun a q=>?_
 have s:=St.init hR
 have hRL:=RLe.refl (M:=[]) w0 R
 refine zq<|zr<|za q rfl fun a q=>zn<|zq<|zq<|zr<|zm q rfl fun a q=>zl q (r_sleqN underlying22 hn q rfl rfl) fun a q=>zn ?_
 refine wp_cond_true (q.ev rfl) ?_
 refine zq<|zr<|za q rfl fun a q=>zn ?_
 have s:=s.row_nil 47 2
 have hq_11 : Reps ty_api_Col R [] ([] : List api_Col):=Reps.nil _ _
 obtain rfl:=Option.some.inj H
 refine wp_ret ?_
 repeat first | refine zt ?_ | refine zb ?_ | refine zo ?_
 exact ret_1 results26 q (rv_tmp q rfl) ⟨_,rfl,_,_,_,rfl,s,hRL,hq_11⟩
 refine enter (args:=[v0_0]) func26 rfl ntmps26 rfl fun a q=>?_
 have s:=St.init hR
 have hRL:=RLe.refl (M:=[]) w0 R
 refine zq<|zr<|za q rfl fun a q=>zn<|zq<|zq<|zr<|zm q rfl fun a q=>zl q (r_sleqS underlying22 hn q rfl rfl) fun a q=>zn ?_
 refine wp_cond_false (q.ev rfl) ?_
 refine wp_skip<|zq<|zr ?_
 refine sl_buildSliceC (zc:=[.string (⟨#[]⟩ : ByteArray),I6 0]) (zs:=[]) (ps:=[]) (c:=[]) underlying22 sizeOf47 zeroValue47 rfl pc_nil rfl rfl (by decide) (by kernel_rfl) rfl s q (by decide) rfl fun a w b_1 s q=>?_
 refine zm q rfl fun a q=>?_
 obtain ⟨y_4,h_5,H⟩:=bs H
 have s:=s.row_lit (size:=2) (m:=0) rfl (by decide)
 have hq_3 : Reps ty_api_Col R [] ([] : List api_Col):=(Reps.nil _ _)
 refine sl_append_A elT22 (by decide) rfl (fun _ _ _ _ h=>h) (s.ra hRA nil_not) hq_3 rfl h0_0 h_5 s q (by decide) rfl rfl rfl fun a w v_6 cs_7 hq_8 s q=>?_
 refine za q rfl fun a q=>zn ?_
 obtain rfl:=Option.some.inj H
 refine wp_ret ?_
 repeat first | refine zt ?_ | refine zb ?_ | refine zo ?_
 exact ret_1 results26 q (rv_tmp q rfl) ⟨_,rfl,_,_,_,rfl,s,hRL,hq_8⟩
theorem check_pick.calls (a0 : List api_Col) (a1 : List ByteArray) {w0 : World} {R : Hp} {RA : Hp} {v0_0 : Value} {v1_0 : Value} (hRA : RA.sub w0) (hR : R.sub w0) (h0_0 : SlR ty_api_Col RA v0_0 a0) (h1_0 : SlR tyStr RA v1_0 a1) {r : (List api_Col) × Bool} (H : check_pick a0 a1 = some r) : Calls prog 91 #[v0_0,v1_0] w0 (Rets fun v w'=>∃ (R' : Hp) (u0 : Value) (cu0 : List Value),v = .tuple #[u0,.bool r.2] ∧ St [] w0 w' R' [.row 47 2 u0 r.1.length cu0] ∧ RLe [] w0 R R' ∧ Reps ty_api_Col R' cu0 r.1):=by
 unfold check_pick at H
 refine enter (args:=[v0_0,v1_0]) func91 rfl ntmps91 rfl fun a q=>?_
 have s:=St.init hR
 have hRL:=RLe.refl (M:=[]) w0 R
 refine zq<|zr<|za q rfl fun a q=>za q rfl fun a q=>zn<|zq<|zr<|za q rfl fun a q=>zn<|zq<|zq<|zr<|zm q rfl fun a q=>zl q (r_len_R underlying23 h1_0 q rfl) fun a q=>zm q rfl fun a q=>zn ?_
 refine wp_block ?_
 refine wp_loop_k (fun k_l0 a w=>∃ (x_44 : List api_Col) (x_48 : Int) (v_45 : Value) (cs_46 : List Value),check_pick.l0 a0 a1 k_l0 x_44 x_48 = some r ∧ Reps ty_api_Col R cs_46 x_44 ∧ Kn 36 a [(0,v0_0),(6,v_45),(10,v1_0),(11,I6 (a1.length : Int)),(12,I6 x_48)] ∧ St [] w0 w R [.row 47 2 v_45 x_44.length cs_46]) (((a1.length : Int) - 0).toNat + 1) ?_ ?_
 have s:=s.row_nil 47 2
 have hq_90 : Reps ty_api_Col R [] ([] : List api_Col):=Reps.nil _ _
 exact ⟨[],0,_,_,H,hq_90,q.sub (zc (zc (zc (zc (zc zz))))),s⟩
 rintro k_l0 a w ⟨x_44,x_48,v_45,cs_46,H,hq_47,q,s⟩
 rcases k_l0 with _ | k_l0
 cases H
 rw [check_pick.l0.eq_2] at H
 refine zq<|zr<|zl q (r_ibin q rfl rfl rfl) fun a q=>zn<|zq ?_
 refine wp_cond_split (q.ev rfl) (fun (hb_91 : (decide (x_48 < (a1.length : Int))) = true)=>?_) fun hb_91=>?_
 rw [ifb_t hb_91] at H
 refine wp_skip<|zq ?_
 refine wp_block ?_
 refine zq<|zr ?_
 obtain ⟨y_92,h_93,H⟩:=bs H
 obtain ⟨b_94,o_95,c_96,cs_97,hv_98,hr_99,hc_100,h_930,h_931⟩:=h1_0.ix h_93
 subst hr_99
 refine zl q (r_indexAddr_R underlying23 sizeOf9 hv_98 h_930 h_931 q rfl rfl) fun a q=>zl q (r_load isAgg9 q rfl ((s.ra hRA nil_not).cell (hc_100 0 _ rfl))) fun a q=>za q rfl fun a q=>zn<|zq<|zr<|zm q rfl fun a q=>zm q rfl fun a q=>?_
 obtain ⟨y_101,h_102,H⟩:=bs H
 refine sl_callV call33 s q (by decide) rfl rfl rfl (table_Find.calls a0 y_92 (lentOf_sub [] _) (h0_0.mono (s.raLe0 hRA nil_not)) h_102) fun a w s q=>?_
 refine za q rfl fun a q=>zn<|zq<|zq ?_
 refine wp_mid (fun a w=>∃ (x_106 : Bool),check_pick.j1 (check_pick.l0 a0 a1 k_l0) a0 a1 x_44 x_48 y_101 x_106 = some r ∧ Kn 36 a [(0,v0_0),(6,v_45),(9,I6 y_101),(10,v1_0),(11,I6 (a1.length : Int)),(12,I6 x_48),(26,.bool x_106)] ∧ St [] w0 w R [.row 47 2 v_45 x_44.length cs_46]) ?_ ?_
 refine zr<|zm q rfl fun a q=>zl q (r_ibin q rfl rfl rfl) fun a q=>zm q rfl fun a q=>?_
 rcases or_b (decide (y_101 < 0)) with hb_108 | hb_108
 rw [ifb_t hb_108] at H
 refine zsw q (wft hb_108) fun a q=>zsw q (wft hb_108) fun a q=>zsw q (wft hb_108) fun a q=>zsw q (wft hb_108) fun a q=>zl q (r_pick_t hb_108 q rfl rfl) fun a q=>zn ?_
 exact ⟨true,H,q.sub (zc (zc (zc (zc (zc (zc (zc zz))))))),s⟩
 rw [ifb_f hb_108] at H
 refine zw q (wff hb_108) (r_move q rfl) fun a q=>zw q (wff hb_108) (r_move q rfl) fun a q=>?_
 obtain ⟨y_109,h_110,H⟩:=bs H
 refine sl_callV call33 s q (by decide) (wff hb_108) rfl rfl (table_Find.calls x_44 y_92 (lentOf_sub [] _) (s.lend_row0 z0 hq_47 rfl rfl) h_110) fun a w s q=>?_
 refine zw q (wff hb_108) (r_ibin q rfl rfl rfl) fun a q=>zl q (r_pick_f hb_108 q rfl rfl) fun a q=>zn ?_
 exact ⟨(decide (y_109 ≥ 0)),H,q.sub (zc (zc (zc (zc (zc (zc (zc zz))))))),s⟩
 rintro a w ⟨x_106,H,q,s⟩
 unfold check_pick.j1 at H
 refine wp_cond_split (q.ev rfl) (fun (hb_111 : x_106 = true)=>?_) fun hb_111=>?_
 rw [ifb_t hb_111] at H
 refine zq<|zr<|za q rfl fun a q=>za q rfl fun a q=>zn ?_
 have s:=s.row_nil 47 2
 have hq_113 : Reps ty_api_Col R [] ([] : List api_Col):=Reps.nil _ _
 obtain rfl:=Option.some.inj H
 refine wp_ret ?_
 repeat first | refine zt ?_ | refine zb ?_ | refine zo ?_
 exact ret_2 results91 q (rv_tmp q rfl) (rv_tmp q rfl) ⟨_,rfl,_,_,_,rfl,(s.trunc 1),hRL,hq_113⟩
 rw [ifb_f hb_111] at H
 refine wp_skip<|zr<|zm q rfl fun a q=>zm q rfl fun a q=>zm q rfl fun a q=>?_
 obtain ⟨y_114,h_115,H⟩:=bs H
 obtain ⟨b_116,o_117,c_118,cs_119,hv_120,hr_121,hc_122,h_1150,h_1151⟩:=h0_0.ix h_115
 subst hr_121
 refine zl q (r_indexAddr_R underlying22 sizeOf47 hv_120 h_1150 h_1151 q rfl rfl) fun a q=>zl q (r_loadA (cs:=[.string y_114.Name,I6 y_114.Kind]) isAgg47 sizeOf47 rfl q rfl (fun j v hv=>(s.ra hRA nil_not).cell (hc_122 j v hv))) fun a q=>?_
 refine sl_buildSliceF (zc:=[.string (⟨#[]⟩ : ByteArray),I6 0]) (ps:=[(0,.agg #[.string y_114.Name,I6 y_114.Kind])]) (c:=[.string y_114.Name,I6 y_114.Kind]) [[.string y_114.Name,I6 y_114.Kind]] underlying22 sizeOf47 zeroValue47 rfl (pc_cons rfl pc_nil) rfl rfl (Nat.le_of_ble_eq_true rfl) rfl (zc zz) rfl s q (by decide) rfl fun a w b_123 s q=>?_
 obtain ⟨y_124,h_125,H⟩:=bs H
 have s:=s.pk1
 refine sl_append_L (ty:=ty_api_Col) (ys:=[y_114]) elT22 (by decide) rfl hq_47 rfl (Reps.cons (show Ty.rep ty_api_Col _ [.string y_114.Name,I6 y_114.Kind] y_114 from rfl) (Reps.nil _ _)) rfl h_125 s q (by decide) rfl rfl rfl fun a w v_126 cs_127 hq_128 s q=>?_
 refine za q rfl fun a q=>zn<|zr<|zl q (r_ibin q rfl rfl rfl) fun a q=>zm q rfl fun a q=>zn ?_
 exact ⟨_,Nat.lt_succ_self _,y_124,(IntKind.i64.wrap (x_48 + 1)),_,_,H,hq_128,q.sub (zc (zc (zc (zc (zc zz))))),s⟩
 rw [ifb_f hb_91] at H
 refine wp_exit ?_
 refine zq<|zr<|zm q rfl fun a q=>za q rfl fun a q=>za q rfl fun a q=>zn ?_
 obtain rfl:=Option.some.inj H
 refine wp_ret ?_
 repeat first | refine zt ?_ | refine zb ?_ | refine zo ?_
 exact ret_2 results91 q (rv_tmp q rfl) (rv_tmp q rfl) ⟨_,rfl,_,_,_,rfl,s,hRL,hq_47⟩
theorem check_group_1.calls (a0 : api_Col) {r : Bool} (H : check_group_1 a0 = some r) (w0 : World) : CallsV prog 123 #[.agg #[.string a0.Name,I6 a0.Kind]] w0 (.bool r):=by
 unfold check_group_1 at H
 refine enter (args:=[.agg #[.string a0.Name,I6 a0.Kind]]) func123 rfl ntmps123 rfl fun a q=>?_
 have s:=St.init (R:=fun _=>none) (w:=w0) (fun _ _ h=>by cases h)
 have hRL:=RLe.refl (M:=[]) w0 (fun _=>none)
 refine zq<|zr ?_
 refine sl_box s q (by decide) rfl rfl (c:=[.string a0.Name,I6 a0.Kind]) rfl fun a w b_1 s q=>?_
 refine za q rfl fun a q=>zn<|zq<|zr<|zl q (r_fieldAddr underlying47 rfl sizeOf3 q rfl) fun a q=>zl q (r_load isAgg3 q rfl (s.cell z0 rfl)) fun a q=>zl q (r_ibin q rfl rfl rfl) fun a q=>za q rfl fun a q=>zn ?_
 obtain rfl:=Option.some.inj H
 refine wp_ret ?_
 repeat first | refine zt ?_ | refine zb ?_ | refine zo ?_
 exact ret_1 results123 q (rv_tmp q rfl) ⟨rfl,s.bel⟩
theorem slices_IndexFunc_api_Col_api_Col_f_check_group_1.calls (a0 : List api_Col) {w0 : World} {RA : Hp} {v0_0 : Value} (hRA : RA.sub w0) (h0_0 : SlR ty_api_Col RA v0_0 a0) {r : Int} (H : slices_IndexFunc_api_Col_api_Col_f_check_group_1 a0 = some r) : CallsV prog 53 #[v0_0,.func (.func 123) #[] #[]] w0 (I6 r):=by
 unfold slices_IndexFunc_api_Col_api_Col_f_check_group_1 at H
 refine enter (args:=[v0_0,.func (.func 123) #[] #[]]) func53 rfl ntmps53 rfl fun a q=>?_
 have s:=St.init (R:=fun _=>none) (w:=w0) (fun _ _ h=>by cases h)
 have hRL:=RLe.refl (M:=[]) w0 (fun _=>none)
 refine zq<|zr<|za q rfl fun a q=>zn<|zq<|zq<|zr<|zm q rfl fun a q=>zl q (r_len_R underlying22 h0_0 q rfl) fun a q=>zm q rfl fun a q=>zn ?_
 refine wp_block ?_
 refine wp_loop_k (fun k_l0 a w=>∃ (x_15 : Int),slices_IndexFunc_api_Col_api_Col_f_check_group_1.l0 a0 k_l0 x_15 = some r ∧ Kn 19 a [(0,v0_0),(1,.func (.func 123) #[] #[]),(7,I6 (a0.length : Int)),(8,I6 x_15)] ∧ St [] w0 w (fun _=>none) []) (((a0.length : Int) - 0).toNat + 1) ?_ ?_
 exact ⟨0,H,q.sub (zc (zc (zc (zc zz)))),s⟩
 rintro k_l0 a w ⟨x_15,H,q,s⟩
 rcases k_l0 with _ | k_l0
 cases H
 rw [slices_IndexFunc_api_Col_api_Col_f_check_group_1.l0.eq_2] at H
 refine zq<|zr<|zl q (r_ibin q rfl rfl rfl) fun a q=>zn<|zq ?_
 refine wp_cond_split (q.ev rfl) (fun (hb_30 : (decide (x_15 < (a0.length : Int))) = true)=>?_) fun hb_30=>?_
 rw [ifb_t hb_30] at H
 refine wp_skip<|zq ?_
 refine wp_block ?_
 refine zq<|zr<|zm q rfl fun a q=>za q rfl fun a q=>zn<|zq<|zr<|zm q rfl fun a q=>zm q rfl fun a q=>zm q rfl fun a q=>?_
 obtain ⟨y_31,h_32,H⟩:=bs H
 obtain ⟨b_33,o_34,c_35,cs_36,hv_37,hr_38,hc_39,h_320,h_321⟩:=h0_0.ix h_32
 subst hr_38
 refine zl q (r_indexAddr_R underlying22 sizeOf47 hv_37 h_320 h_321 q rfl rfl) fun a q=>zl q (r_loadA (cs:=[.string y_31.Name,I6 y_31.Kind]) isAgg47 sizeOf47 rfl q rfl (fun j v hv=>(s.ra hRA nil_not).cell (hc_39 j v hv))) fun a q=>?_
 obtain ⟨y_40,h_41,H⟩:=bs H
 refine sl_callV call123 s q (by decide) rfl rfl rfl (check_group_1.calls y_31 h_41 _) fun a w s q=>?_
 refine zn ?_
 refine wp_cond_split (q.ev rfl) (fun (hb_42 : y_40 = true)=>?_) fun hb_42=>?_
 rw [ifb_t hb_42] at H
 refine zq<|zr<|zm q rfl fun a q=>za q rfl fun a q=>zn ?_
 obtain rfl:=Option.some.inj H
 refine wp_ret ?_
 repeat first | refine zt ?_ | refine zb ?_ | refine zo ?_
 exact ret_1 results53 q (rv_tmp q rfl) ⟨rfl,s.bel⟩
 rw [ifb_f hb_42] at H
 refine wp_skip<|zr<|zl q (r_ibin q rfl rfl rfl) fun a q=>zm q rfl fun a q=>zn ?_
 exact ⟨_,Nat.lt_succ_self _,(IntKind.i64.wrap (x_15 + 1)),H,q.sub (zc (zc (zc (zc zz)))),s⟩
 rw [ifb_f hb_30] at H
 refine wp_exit ?_
 refine zq<|zr<|za q rfl fun a q=>zn ?_
 obtain rfl:=Option.some.inj H
 refine wp_ret ?_
 repeat first | refine zt ?_ | refine zb ?_ | refine zo ?_
 exact ret_1 results53 q (rv_tmp q rfl) ⟨rfl,s.bel⟩
theorem slices_ContainsFunc_api_Col_api_Col_f_check_group_1.calls (a0 : List api_Col) {w0 : World} {RA : Hp} {v0_0 : Value} (hRA : RA.sub w0) (h0_0 : SlR ty_api_Col RA v0_0 a0) {r : Bool} (H : slices_ContainsFunc_api_Col_api_Col_f_check_group_1 a0 = some r) : CallsV prog 122 #[v0_0,.func (.func 123) #[] #[]] w0 (.bool r):=by
 unfold slices_ContainsFunc_api_Col_api_Col_f_check_group_1 at H
 refine enter (args:=[v0_0,.func (.func 123) #[] #[]]) func122 rfl ntmps122 rfl fun a q=>?_
 have s:=St.init (R:=fun _=>none) (w:=w0) (fun _ _ h=>by cases h)
 have hRL:=RLe.refl (M:=[]) w0 (fun _=>none)
 refine zq<|zr<|za q rfl fun a q=>zn<|zq<|zr<|zm q rfl fun a q=>zm q rfl fun a q=>?_
 obtain ⟨y_1,h_2,H⟩:=bs H
 refine sl_callV call53 s q (by decide) rfl rfl rfl (slices_IndexFunc_api_Col_api_Col_f_check_group_1.calls a0 (lentOf_sub [] _) (h0_0.mono (s.raLe0 hRA nil_not)) h_2) fun a w s q=>?_
 refine zl q (r_ibin q rfl rfl rfl) fun a q=>za q rfl fun a q=>zn ?_
 obtain rfl:=Option.some.inj H
 refine wp_ret ?_
 repeat first | refine zt ?_ | refine zb ?_ | refine zo ?_
 exact ret_1 results122 q (rv_tmp q rfl) ⟨rfl,s.bel⟩
theorem check_Name.calls (a0 : api_Agg) {r : ByteArray} (H : check_Name a0 = some r) (w0 : World) : CallsV prog 138 #[.agg #[I6 a0.Kind,.string a0.Col]] w0 (.string r):=by
 unfold check_Name at H
 refine enter (args:=[.agg #[I6 a0.Kind,.string a0.Col]]) func138 rfl ntmps138 rfl fun a q=>?_
 have s:=St.init (R:=fun _=>none) (w:=w0) (fun _ _ h=>by cases h)
 have hRL:=RLe.refl (M:=[]) w0 (fun _=>none)
 refine zq<|zr ?_
 refine sl_box s q (by decide) rfl rfl (c:=[I6 a0.Kind,.string a0.Col]) rfl fun a w b_1 s q=>?_
 refine za q rfl fun a q=>zn<|zq<|zq<|zr<|zl q (r_fieldAddr underlying49 rfl sizeOf3 q rfl) fun a q=>zl q (r_load isAgg3 q rfl (s.cell z0 rfl)) fun a q=>zn ?_
 refine wp_block ?_
 refine zq<|zr<|zl q (r_ibin q rfl rfl rfl) fun a q=>za q rfl fun a q=>zn ?_
 refine wp_cond_split (q.ev rfl) (fun (hb_2 : (a0.Kind == 1) = true)=>?_) fun hb_2=>?_
 rw [ifb_t hb_2] at H
 refine zq<|zr<|za q rfl fun a q=>zn ?_
 obtain rfl:=Option.some.inj H
 refine wp_ret ?_
 repeat first | refine zt ?_ | refine zb ?_ | refine zo ?_
 exact ret_1 results138 q (rv_tmp q rfl) ⟨rfl,s.bel⟩
 rw [ifb_f hb_2] at H
 refine zq<|zr<|zl q (r_ibin q rfl rfl rfl) fun a q=>za q rfl fun a q=>zn ?_
 refine wp_cond_split (q.ev rfl) (fun (hb_3 : (a0.Kind == 2) = true)=>?_) fun hb_3=>?_
 rw [ifb_t hb_3] at H
 refine zq<|zr<|zl q (r_fieldAddr underlying49 rfl sizeOf9 q rfl) fun a q=>zl q (r_load isAgg9 q rfl (s.cell z0 rfl)) fun a q=>?_
 rcases or_b (decide ((⟨#[115,117,109,95]⟩ : ByteArray).size + a0.Col.size ≤ 9223372036854775807)) with hn_4 | hn_4
 rw [ifb_t hn_4] at H
 refine zl q (r_sadd q rfl rfl (of_decide_eq_true hn_4)) fun a q=>za q rfl fun a q=>zn ?_
 obtain rfl:=Option.some.inj H
 refine wp_ret ?_
 repeat first | refine zt ?_ | refine zb ?_ | refine zo ?_
 exact ret_1 results138 q (rv_tmp q rfl) ⟨rfl,s.bel⟩
 rw [ifb_f hn_4] at H
 cases H
 rw [ifb_f hb_3] at H
 refine zq<|zr<|zl q (r_ibin q rfl rfl rfl) fun a q=>za q rfl fun a q=>zn ?_
 refine wp_cond_split (q.ev rfl) (fun (hb_5 : (a0.Kind == 3) = true)=>?_) fun hb_5=>?_
 rw [ifb_t hb_5] at H
 refine zq<|zr<|zl q (r_fieldAddr underlying49 rfl sizeOf9 q rfl) fun a q=>zl q (r_load isAgg9 q rfl (s.cell z0 rfl)) fun a q=>?_
 rcases or_b (decide ((⟨#[109,105,110,95]⟩ : ByteArray).size + a0.Col.size ≤ 9223372036854775807)) with hn_6 | hn_6
 rw [ifb_t hn_6] at H
 refine zl q (r_sadd q rfl rfl (of_decide_eq_true hn_6)) fun a q=>za q rfl fun a q=>zn ?_
 obtain rfl:=Option.some.inj H
 refine wp_ret ?_
 repeat first | refine zt ?_ | refine zb ?_ | refine zo ?_
 exact ret_1 results138 q (rv_tmp q rfl) ⟨rfl,s.bel⟩
 rw [ifb_f hn_6] at H
 cases H
 rw [ifb_f hb_5] at H
 refine zq<|zr<|zl q (r_ibin q rfl rfl rfl) fun a q=>za q rfl fun a q=>zn ?_
 refine wp_cond_split (q.ev rfl) (fun (hb_7 : (a0.Kind == 4) = true)=>?_) fun hb_7=>?_
 rw [ifb_t hb_7] at H
 refine zq<|zr<|zl q (r_fieldAddr underlying49 rfl sizeOf9 q rfl) fun a q=>zl q (r_load isAgg9 q rfl (s.cell z0 rfl)) fun a q=>?_
 rcases or_b (decide ((⟨#[109,97,120,95]⟩ : ByteArray).size + a0.Col.size ≤ 9223372036854775807)) with hn_8 | hn_8
 rw [ifb_t hn_8] at H
 refine zl q (r_sadd q rfl rfl (of_decide_eq_true hn_8)) fun a q=>za q rfl fun a q=>zn ?_
 obtain rfl:=Option.some.inj H
 refine wp_ret ?_
 repeat first | refine zt ?_ | refine zb ?_ | refine zo ?_
 exact ret_1 results138 q (rv_tmp q rfl) ⟨rfl,s.bel⟩
 rw [ifb_f hn_8] at H
 cases H
 rw [ifb_f hb_7] at H
 refine zq<|zr<|zl q (r_ibin q rfl rfl rfl) fun a q=>za q rfl fun a q=>zn ?_
 refine wp_cond_split (q.ev rfl) (fun (hb_9 : (a0.Kind == 5) = true)=>?_) fun hb_9=>?_
 rw [ifb_t hb_9] at H
 refine zq<|zr<|zl q (r_fieldAddr underlying49 rfl sizeOf9 q rfl) fun a q=>zl q (r_load isAgg9 q rfl (s.cell z0 rfl)) fun a q=>?_
 rcases or_b (decide ((⟨#[109,101,97,110,95]⟩ : ByteArray).size + a0.Col.size ≤ 9223372036854775807)) with hn_10 | hn_10
 rw [ifb_t hn_10] at H
 refine zl q (r_sadd q rfl rfl (of_decide_eq_true hn_10)) fun a q=>za q rfl fun a q=>zn ?_
 obtain rfl:=Option.some.inj H
 refine wp_ret ?_
 repeat first | refine zt ?_ | refine zb ?_ | refine zo ?_
 exact ret_1 results138 q (rv_tmp q rfl) ⟨rfl,s.bel⟩
 rw [ifb_f hn_10] at H
 cases H
 rw [ifb_f hb_9] at H
 refine zq<|zr<|zl q (r_ibin q rfl rfl rfl) fun a q=>za q rfl fun a q=>zn ?_
 refine wp_cond_split (q.ev rfl) (fun (hb_11 : (a0.Kind == 6) = true)=>?_) fun hb_11=>?_
 rw [ifb_t hb_11] at H
 refine zq<|zr<|zl q (r_fieldAddr underlying49 rfl sizeOf9 q rfl) fun a q=>zl q (r_load isAgg9 q rfl (s.cell z0 rfl)) fun a q=>?_
 rcases or_b (decide ((⟨#[109,101,114,103,101,95]⟩ : ByteArray).size + a0.Col.size ≤ 9223372036854775807)) with hn_12 | hn_12
 rw [ifb_t hn_12] at H
 refine zl q (r_sadd q rfl rfl (of_decide_eq_true hn_12)) fun a q=>za q rfl fun a q=>zn ?_
 obtain rfl:=Option.some.inj H
 refine wp_ret ?_
 repeat first | refine zt ?_ | refine zb ?_ | refine zo ?_
 exact ret_1 results138 q (rv_tmp q rfl) ⟨rfl,s.bel⟩
 rw [ifb_f hn_12] at H
 cases H
 rw [ifb_f hb_11] at H
 refine wp_skip<|zq<|zr<|za q rfl fun a q=>zn ?_
 obtain rfl:=Option.some.inj H
 refine wp_ret ?_
 repeat first | refine zt ?_ | refine zb ?_ | refine zo ?_
 exact ret_1 results138 q (rv_tmp q rfl) ⟨rfl,s.bel⟩
theorem check_aggregate.calls (a0 : api_Agg) (a1 : List api_Col) {w0 : World} {RA : Hp} {v1_0 : Value} (hRA : RA.sub w0) (h1_0 : SlR ty_api_Col RA v1_0 a1) {r : api_Col × Bool} (H : check_aggregate a0 a1 = some r) : CallsV prog 124 #[.agg #[I6 a0.Kind,.string a0.Col],v1_0] w0 (.tuple #[.agg #[.string r.1.Name,I6 r.1.Kind],.bool r.2]):=by
 unfold check_aggregate at H
 refine enter (args:=[.agg #[I6 a0.Kind,.string a0.Col],v1_0]) func124 rfl ntmps124 rfl fun a q=>?_
 have s:=St.init (R:=fun _=>none) (w:=w0) (fun _ _ h=>by cases h)
 have hRL:=RLe.refl (M:=[]) w0 (fun _=>none)
 refine zq<|zr ?_
 refine sl_box s q (by decide) rfl rfl (c:=[I6 a0.Kind,.string a0.Col]) rfl fun a w b_1 s q=>?_
 refine sl_alloc zeroValue47 s q (by decide) rfl rfl fun a w b_2 s q=>?_
 refine za q rfl fun a q=>zn<|zq<|zr<|zl q (r_loadA (cs:=[I6 a0.Kind,.string a0.Col]) isAgg49 sizeOf49 rfl q rfl (s.cells_of (m:=2) z1 rfl)) fun a q=>?_
 obtain ⟨y_3,h_4,H⟩:=bs H
 refine sl_callV call138 s q (by decide) rfl rfl rfl (check_Name.calls a0 h_4 _) fun a w s q=>?_
 refine zl q (r_buildC (ps:=[(0,.string y_3),(1,I6 1)]) (c:=[.string y_3,I6 1]) underlying47 zeroValue47 places47 q rfl (pc_cons rfl (pc_cons rfl pc_nil)) rfl rfl) fun a q=>?_
 refine sl_alloc zeroValue47 s q (by decide) rfl rfl fun a w b_5 s q=>?_
 refine sl_storeA (vs:=[.string y_3,I6 1]) (c':=[.string y_3,I6 1]) sizeOf47 s q rfl rfl rfl rfl (zc (zc zz)) (Nat.le_of_ble_eq_true rfl) rfl fun a w s q=>?_
 refine zn<|zq<|zq<|zr<|zl q (r_fieldAddr underlying49 rfl sizeOf3 q rfl) fun a q=>zl q (r_load isAgg3 q rfl (s.cell z2 rfl)) fun a q=>zl q (r_ibin q rfl rfl rfl) fun a q=>zn ?_
 refine wp_cond_split (q.ev rfl) (fun (hb_6 : (a0.Kind == 1) = true)=>?_) fun hb_6=>?_
 rw [ifb_t hb_6] at H
 refine zq ?_
 refine parT_region (C:=fun w=>St [] w0 w (fun _=>none) [.cells b_5 [.string y_3,I6 1] 47,.cells b_1 [I6 a0.Kind,.string a0.Col] 49]) 5 [(0,true),(1,true),(2,true),(3,true),(4,false)] mixed (by kernel_rfl) s (fun w s=>(s.pk2.pk1.trunc 2)) fun w s=>?_
 refine zp rfl q (fun w s=>r_loadA (cs:=[.string y_3,I6 1]) isAgg47 sizeOf47 rfl q rfl (s.cells_of (m:=2) z0 rfl)) fun a q=>zp rfl q (fun w s=>r_fieldAddr underlying49 rfl sizeOf9 q rfl) fun a q=>zp rfl q (fun w s=>r_load isAgg9 q rfl (s.cell z1 rfl)) fun a q=>zp rfl q (fun w s=>r_sbin q rfl rfl rfl) fun a q=>?_
 refine spw (k:=4) rfl rfl (s.pk2.pk1.trunc 2) ?_
 have s:=s.pk1
 refine sl_storeA (vs:=[.string y_3,I6 1]) (c':=[.string y_3,I6 1]) sizeOf47 s q rfl rfl rfl rfl (zc (zc zz)) (Nat.le_of_ble_eq_true rfl) rfl fun a w s q=>?_
 refine parK_nil (s.pk2.pk2.trunc 2) ?_
 refine thenL_nil ?_
 refine za q rfl fun a q=>?_
 refine wpList_nil (NoP_nil ?_)
 obtain rfl:=Option.some.inj H
 refine wp_ret ?_
 repeat first | refine zt ?_ | refine zb ?_ | refine zo ?_
 exact ret_2 results124 q (rv_cell (c:=[.string y_3,I6 1]) isAgg47 sizeOf47 s z0 rfl q rfl) (rv_tmp q rfl) ⟨rfl,s.bel⟩
 rw [ifb_f hb_6] at H
 refine wp_skip<|zq<|zr<|zm q rfl fun a q=>zl q (r_fieldAddr underlying49 rfl sizeOf9 q rfl) fun a q=>zl q (r_load isAgg9 q rfl (s.cell z2 rfl)) fun a q=>?_
 obtain ⟨y_7,h_8,H⟩:=bs H
 refine sl_callV call33 s q (by decide) rfl rfl rfl (table_Find.calls a1 a0.Col (lentOf_sub [] _) (h1_0.mono (s.raLe0 hRA nil_not)) h_8) fun a w s q=>?_
 refine za q rfl fun a q=>zn<|zq<|zq<|zr<|zm q rfl fun a q=>zl q (r_ibin q rfl rfl rfl) fun a q=>zn ?_
 refine wp_cond_split (q.ev rfl) (fun (hb_9 : (decide (y_7 < 0)) = true)=>?_) fun hb_9=>?_
 rw [ifb_t hb_9] at H
 refine zq<|zr<|zl q (r_loadA (cs:=[.string y_3,I6 1]) isAgg47 sizeOf47 rfl q rfl (s.cells_of (m:=2) z0 rfl)) fun a q=>?_
 have s:=s.pk1
 refine sl_storeA (vs:=[.string y_3,I6 1]) (c':=[.string y_3,I6 1]) sizeOf47 s q rfl rfl rfl rfl (zc (zc zz)) (Nat.le_of_ble_eq_true rfl) rfl fun a w s q=>?_
 refine za q rfl fun a q=>zn ?_
 obtain rfl:=Option.some.inj H
 refine wp_ret ?_
 repeat first | refine zt ?_ | refine zb ?_ | refine zo ?_
 exact ret_2 results124 q (rv_cell (c:=[.string y_3,I6 1]) isAgg47 sizeOf47 s z0 rfl q rfl) (rv_tmp q rfl) ⟨rfl,s.bel⟩
 rw [ifb_f hb_9] at H
 refine wp_skip<|zq<|zr<|zm q rfl fun a q=>zm q rfl fun a q=>?_
 obtain ⟨y_10,h_11,H⟩:=bs H
 obtain ⟨b_12,o_13,c_14,cs_15,hv_16,hr_17,hc_18,h_110,h_111⟩:=h1_0.ix h_11
 subst hr_17
 refine zl q (r_indexAddr_R underlying22 sizeOf47 hv_16 h_110 h_111 q rfl rfl) fun a q=>zl q (r_fieldAddr underlying47 rfl sizeOf3 q rfl) fun a q=>zl q (r_load isAgg3 q rfl ((s.ra hRA nil_not).cell (hc_18 1 _ rfl))) fun a q=>za q rfl fun a q=>zn<|zq<|zq<|zr<|zl q (r_fieldAddr underlying49 rfl sizeOf3 q rfl) fun a q=>zl q (r_load isAgg3 q rfl (s.cell z2 rfl)) fun a q=>zn ?_
 refine wp_block ?_
 refine zq<|zq<|zr<|zl q (r_ibin q rfl rfl rfl) fun a q=>za q rfl fun a q=>zn ?_
 refine wp_mid (fun a w=>∃ (x_20 : Bool),check_aggregate.j0 a0 y_3 y_10 x_20 = some r ∧ Kn 55 a [(4,.pointer (some ⟨b_2,0,none⟩)),(6,.pointer (some ⟨b_5,0,none⟩)),(8,I6 y_10.Kind),(32,I6 a0.Kind),(33,.bool x_20)] ∧ St [] w0 w (fun _=>none) [.cells b_2 [.string (⟨#[]⟩ : ByteArray),I6 0] 47,.cells b_5 [.string y_3,I6 1] 47]) ?_ ?_
 refine wp_cond_split (q.ev rfl) (fun (hb_22 : (a0.Kind == 2) = true)=>?_) fun hb_22=>?_
 rw [ifb_t hb_22] at H
 refine wp_skip ?_
 have s:=s.pk1
 exact ⟨(a0.Kind == 2),H,q.sub (zc (zc (zc (zc (zc zz))))),s.trunc 2⟩
 rw [ifb_f hb_22] at H
 refine zr<|zl q (r_ibin q rfl rfl rfl) fun a q=>za q rfl fun a q=>zn ?_
 have s:=s.pk1
 exact ⟨(a0.Kind == 5),H,q.sub (zc (zc (zc (zc (zc zz))))),s.trunc 2⟩
 rintro a w ⟨x_20,H,q,s⟩
 unfold check_aggregate.j0 at H
 refine wp_cond_split (q.ev rfl) (fun (hb_23 : x_20 = true)=>?_) fun hb_23=>?_
 rw [ifb_t hb_23] at H
 refine zq<|zr<|zl q (r_loadA (cs:=[.string y_3,I6 1]) isAgg47 sizeOf47 rfl q rfl (s.cells_of (m:=2) z1 rfl)) fun a q=>zm q rfl fun a q=>zl q (r_ibin q rfl rfl rfl) fun a q=>?_
 refine sl_storeA (vs:=[.string y_3,I6 1]) (c':=[.string y_3,I6 1]) sizeOf47 s q rfl rfl rfl rfl (zc (zc zz)) (Nat.le_of_ble_eq_true rfl) rfl fun a w s q=>?_
 refine za q rfl fun a q=>zn ?_
 obtain rfl:=Option.some.inj H
 refine wp_ret ?_
 repeat first | refine zt ?_ | refine zb ?_ | refine zo ?_
 exact ret_2 results124 q (rv_cell (c:=[.string y_3,I6 1]) isAgg47 sizeOf47 s z0 rfl q rfl) (rv_tmp q rfl) ⟨rfl,s.bel⟩
 rw [ifb_f hb_23] at H
 refine zq<|zq<|zr<|zl q (r_ibin q rfl rfl rfl) fun a q=>za q rfl fun a q=>zn ?_
 refine wp_mid (fun a w=>∃ (x_25 : Bool),check_aggregate.j1 a0 y_3 y_10 x_25 = some r ∧ Kn 55 a [(4,.pointer (some ⟨b_2,0,none⟩)),(6,.pointer (some ⟨b_5,0,none⟩)),(8,I6 y_10.Kind),(32,I6 a0.Kind),(39,.bool x_25)] ∧ St [] w0 w (fun _=>none) [.cells b_2 [.string (⟨#[]⟩ : ByteArray),I6 0] 47,.cells b_5 [.string y_3,I6 1] 47]) ?_ ?_
 refine wp_cond_split (q.ev rfl) (fun (hb_27 : (a0.Kind == 3) = true)=>?_) fun hb_27=>?_
 rw [ifb_t hb_27] at H
 refine wp_skip ?_
 have s:=s.pk1
 have s:=s.pk1
 exact ⟨(a0.Kind == 3),H,q.sub (zc (zc (zc (zc (zc zz))))),s⟩
 rw [ifb_f hb_27] at H
 refine zr<|zl q (r_ibin q rfl rfl rfl) fun a q=>za q rfl fun a q=>zn ?_
 have s:=s.pk1
 have s:=s.pk1
 exact ⟨(a0.Kind == 4),H,q.sub (zc (zc (zc (zc (zc zz))))),s⟩
 rintro a w ⟨x_25,H,q,s⟩
 unfold check_aggregate.j1 at H
 refine wp_cond_split (q.ev rfl) (fun (hb_28 : x_25 = true)=>?_) fun hb_28=>?_
 rw [ifb_t hb_28] at H
 refine zq<|zr<|zm q rfl fun a q=>zl q (r_fieldAddr underlying47 rfl sizeOf3 q rfl) fun a q=>?_
 have s:=s.pk1
 refine sl_store1 (c':=[.string y_3,I6 y_10.Kind]) sizeOf3 s q rfl rfl rfl rfl (Nat.le_of_ble_eq_true rfl) rfl fun a w s q=>?_
 refine zn<|zq<|zr<|zl q (r_loadA (cs:=[.string y_3,I6 y_10.Kind]) isAgg47 sizeOf47 rfl q rfl (s.cells_of (m:=2) z0 rfl)) fun a q=>zm q rfl fun a q=>zl q (r_ibin q rfl rfl rfl) fun a q=>?_
 have s:=s.pk1
 refine sl_storeA (vs:=[.string y_3,I6 y_10.Kind]) (c':=[.string y_3,I6 y_10.Kind]) sizeOf47 s q rfl rfl rfl rfl (zc (zc zz)) (Nat.le_of_ble_eq_true rfl) rfl fun a w s q=>?_
 refine za q rfl fun a q=>zn ?_
 obtain rfl:=Option.some.inj H
 refine wp_ret ?_
 repeat first | refine zt ?_ | refine zb ?_ | refine zo ?_
 exact ret_2 results124 q (rv_cell (c:=[.string y_3,I6 y_10.Kind]) isAgg47 sizeOf47 s z0 rfl q rfl) (rv_tmp q rfl) ⟨rfl,s.bel⟩
 rw [ifb_f hb_28] at H
 refine zq<|zr<|zl q (r_ibin q rfl rfl rfl) fun a q=>za q rfl fun a q=>zn ?_
 refine wp_cond_split (q.ev rfl) (fun (hb_29 : (a0.Kind == 6) = true)=>?_) fun hb_29=>?_
 rw [ifb_t hb_29] at H
 refine zq<|zr<|zm q rfl fun a q=>zl q (r_fieldAddr underlying47 rfl sizeOf3 q rfl) fun a q=>?_
 have s:=s.pk1
 refine sl_store1 (c':=[.string y_3,I6 y_10.Kind]) sizeOf3 s q rfl rfl rfl rfl (Nat.le_of_ble_eq_true rfl) rfl fun a w s q=>?_
 refine zn<|zq<|zr<|zl q (r_loadA (cs:=[.string y_3,I6 y_10.Kind]) isAgg47 sizeOf47 rfl q rfl (s.cells_of (m:=2) z0 rfl)) fun a q=>zm q rfl fun a q=>zl q (r_ibin q rfl rfl rfl) fun a q=>?_
 have s:=s.pk1
 refine sl_storeA (vs:=[.string y_3,I6 y_10.Kind]) (c':=[.string y_3,I6 y_10.Kind]) sizeOf47 s q rfl rfl rfl rfl (zc (zc zz)) (Nat.le_of_ble_eq_true rfl) rfl fun a w s q=>?_
 refine za q rfl fun a q=>zn ?_
 obtain rfl:=Option.some.inj H
 refine wp_ret ?_
 repeat first | refine zt ?_ | refine zb ?_ | refine zo ?_
 exact ret_2 results124 q (rv_cell (c:=[.string y_3,I6 y_10.Kind]) isAgg47 sizeOf47 s z0 rfl q rfl) (rv_tmp q rfl) ⟨rfl,s.bel⟩
 rw [ifb_f hb_29] at H
 refine wp_skip<|zq<|zr<|zl q (r_loadA (cs:=[.string y_3,I6 1]) isAgg47 sizeOf47 rfl q rfl (s.cells_of (m:=2) z1 rfl)) fun a q=>?_
 refine sl_storeA (vs:=[.string y_3,I6 1]) (c':=[.string y_3,I6 1]) sizeOf47 s q rfl rfl rfl rfl (zc (zc zz)) (Nat.le_of_ble_eq_true rfl) rfl fun a w s q=>?_
 refine za q rfl fun a q=>zn ?_
 obtain rfl:=Option.some.inj H
 refine wp_ret ?_
 repeat first | refine zt ?_ | refine zb ?_ | refine zo ?_
 exact ret_2 results124 q (rv_cell (c:=[.string y_3,I6 1]) isAgg47 sizeOf47 s z0 rfl q rfl) (rv_tmp q rfl) ⟨rfl,s.bel⟩
theorem check_group.calls (a0 : api_Node) (a1 : List api_Col) {w0 : World} {R : Hp} {RA : Hp} {v0_0 : Value} {v0_1 : Value} {v0_2 : Value} {v1_0 : Value} (hRA : RA.sub w0) (hR : R.sub w0) (h0_0 : SlR (tyInt .i64) RA v0_0 a0.L) (h0_1 : SlR tyStr RA v0_1 a0.Names) (h0_2 : SlR ty_api_Agg RA v0_2 a0.Aggs) (h1_0 : SlR ty_api_Col RA v1_0 a1) {r : (List api_Col) × Bool} (H : check_group a0 a1 = some r) : Calls prog 93 #[.agg #[I6 a0.Kind,.string a0.S,I6 a0.N,I6 a0.From,I6 a0.To,I6 a0.V.Kind,I6 a0.V.N,.string a0.V.S,I6 a0.V.H.a0,I6 a0.V.H.a1,I6 a0.V.H.a2,I6 a0.V.H.a3,I6 a0.V.H.a4,I6 a0.V.H.a5,I6 a0.V.H.a6,I6 a0.V.H.a7,v0_0,v0_1,v0_2],v1_0] w0 (Rets fun v w'=>∃ (R' : Hp) (u0 : Value) (cu0 : List Value),v = .tuple #[u0,.bool r.2] ∧ St [] w0 w' R' [.row 47 2 u0 r.1.length cu0] ∧ RLe [] w0 R R' ∧ Reps ty_api_Col R' cu0 r.1):=by
 unfold check_group at H
 refine enter (args:=[.agg #[I6 a0.Kind,.string a0.S,I6 a0.N,I6 a0.From,I6 a0.To,I6 a0.V.Kind,I6 a0.V.N,.string a0.V.S,I6 a0.V.H.a0,I6 a0.V.H.a1,I6 a0.V.H.a2,I6 a0.V.H.a3,I6 a0.V.H.a4,I6 a0.V.H.a5,I6 a0.V.H.a6,I6 a0.V.H.a7,v0_0,v0_1,v0_2],v1_0]) func93 rfl ntmps93 rfl fun a q=>?_
 have s:=St.init hR
 have hRL:=RLe.refl (M:=[]) w0 R
 refine zq<|zr ?_
 refine sl_box s q (by decide) rfl rfl (c:=[I6 a0.Kind,.string a0.S,I6 a0.N,I6 a0.From,I6 a0.To,I6 a0.V.Kind,I6 a0.V.N,.string a0.V.S,I6 a0.V.H.a0,I6 a0.V.H.a1,I6 a0.V.H.a2,I6 a0.V.H.a3,I6 a0.V.H.a4,I6 a0.V.H.a5,I6 a0.V.H.a6,I6 a0.V.H.a7,v0_0,v0_1,v0_2]) rfl fun a w b_1 s q=>?_
 refine za q rfl fun a q=>za q rfl fun a q=>zn<|zq<|zr<|zm q rfl fun a q=>zl q (r_fieldAddr underlying58 rfl sizeOf23 q rfl) fun a q=>zl q (r_load isAgg23 q rfl (s.cell z0 rfl)) fun a q=>?_
 obtain ⟨y_2,h_3,H⟩:=bs H
 refine sl_call call91 q (by decide) rfl rfl rfl (check_pick.calls a1 a0.Names (lentOf_sub [] _) s.sub (h1_0.mono (s.raLe0 hRA nil_not)) (h0_1.mono (s.raLe0 hRA nil_not)) h_3) fun a v_ w hv_ q=>?_
 obtain ⟨R_4,v_7,cs_8,hv_,hr_,hl_5,hq_9⟩:=hv_
 have hv_:=hv_.symm
 subst hv_
 obtain ⟨s,hl_5⟩:=s.sp0.back hr_ hl_5
 have s:=s.un1
 have hRL:=hRL.trans hl_5
 refine zm q rfl fun a q=>zl q (r_extract q rfl rfl) fun a q=>zl q (r_extract q rfl rfl) fun a q=>za q rfl fun a q=>za q rfl fun a q=>zn<|zq<|zq ?_
 refine wp_mid (fun a w=>∃ (x_14 : Bool),check_group.j0 a0 a1 y_2 x_14 = some r ∧ Kn 56 a [(1,v1_0),(2,.pointer (some ⟨b_1,0,none⟩)),(6,v_7),(30,.bool x_14)] ∧ St [] w0 w R_4 [.cells b_1 [I6 a0.Kind,.string a0.S,I6 a0.N,I6 a0.From,I6 a0.To,I6 a0.V.Kind,I6 a0.V.N,.string a0.V.S,I6 a0.V.H.a0,I6 a0.V.H.a1,I6 a0.V.H.a2,I6 a0.V.H.a3,I6 a0.V.H.a4,I6 a0.V.H.a5,I6 a0.V.H.a6,I6 a0.V.H.a7,v0_0,v0_1,v0_2] 58,.row 47 2 v_7 y_2.1.length cs_8]) ?_ ?_
 refine zr<|zm q rfl fun a q=>zl q (r_un q rfl (u_not _)) fun a q=>zm q rfl fun a q=>?_
 rcases or_b (!y_2.2) with hb_16 | hb_16
 rw [ifb_t hb_16] at H
 refine zsw q (wft hb_16) fun a q=>zsw q (wft hb_16) fun a q=>zsw q (wft hb_16) fun a q=>zsw q (wft hb_16) fun a q=>zl q (r_pick_t hb_16 q rfl rfl) fun a q=>zm q rfl fun a q=>zs q fun a q=>zs q fun a q=>zl q (r_pick q rfl rfl rfl) fun a q=>zn ?_
 have s:=s.pk1
 exact ⟨true,H,q.sub (zc (zc (zc (zc zz)))),s⟩
 rw [ifb_f hb_16] at H
 refine zw q (wff hb_16) (r_fieldAddr underlying58 rfl sizeOf24 q rfl) fun a q=>zw q (wff hb_16) (r_load isAgg24 q rfl (s.cell z1 rfl)) fun a q=>zw q (wff hb_16) (r_len_R underlying24 h0_2 q rfl) fun a q=>zw q (wff hb_16) (r_ibin q rfl rfl rfl) fun a q=>zl q (r_pick_f hb_16 q rfl rfl) fun a q=>zm q rfl fun a q=>?_
 rcases or_b ((a0.Aggs.length : Int) == 0) with hb_17 | hb_17
 rw [ifb_t hb_17] at H
 refine zsw q (wft hb_17) fun a q=>zsw q (wft hb_17) fun a q=>zl q (r_pick_t hb_17 q rfl rfl) fun a q=>zn ?_
 have s:=s.pk1
 exact ⟨true,H,q.sub (zc (zc (zc (zc zz)))),s⟩
 rw [ifb_f hb_17] at H
 refine zw q (wff hb_17) (r_move q rfl) fun a q=>?_
 obtain ⟨y_18,h_19,H⟩:=bs H
 refine sl_callV call122 s q (by decide) (wff hb_17) rfl rfl (slices_ContainsFunc_api_Col_api_Col_f_check_group_1.calls y_2.1 (lentOf_sub [] _) (s.lend_row0 z0 hq_9 rfl rfl) h_19) fun a w s q=>?_
 refine zl q (r_pick_f hb_17 q rfl rfl) fun a q=>zn ?_
 have s:=s.pk1
 exact ⟨y_18,H,q.sub (zc (zc (zc (zc zz)))),s⟩
 rintro a w ⟨x_14,H,q,s⟩
 unfold check_group.j0 at H
 refine wp_cond_split (q.ev rfl) (fun (hb_20 : x_14 = true)=>?_) fun hb_20=>?_
 rw [ifb_t hb_20] at H
 refine zq<|zr<|za q rfl fun a q=>za q rfl fun a q=>zn ?_
 have s:=s.row_nil 47 2
 have hq_22 : Reps ty_api_Col R_4 [] ([] : List api_Col):=Reps.nil _ _
 obtain rfl:=Option.some.inj H
 refine wp_ret ?_
 repeat first | refine zt ?_ | refine zb ?_ | refine zo ?_
 exact ret_2 results93 q (rv_tmp q rfl) (rv_tmp q rfl) ⟨_,rfl,_,_,_,rfl,(s.trunc 1),hRL,hq_22⟩
 rw [ifb_f hb_20] at H
 refine wp_skip<|zq<|zq<|zr<|zl q (r_fieldAddr underlying58 rfl sizeOf24 q rfl) fun a q=>zl q (r_load isAgg24 q rfl (s.cell z0 rfl)) fun a q=>zl q (r_len_R underlying24 h0_2 q rfl) fun a q=>zm q rfl fun a q=>zn ?_
 refine wp_block ?_
 refine wp_loop_k (fun k_l1 a w=>∃ (x_49 : List api_Col) (x_53 : Int) (v_50 : Value) (cs_51 : List Value),check_group.l1 a0 a1 k_l1 x_49 x_53 = some r ∧ Reps ty_api_Col R_4 cs_51 x_49 ∧ Kn 56 a [(1,v1_0),(6,v_50),(32,v0_2),(33,I6 (a0.Aggs.length : Int)),(34,I6 x_53)] ∧ St [] w0 w R_4 [.row 47 2 v_50 x_49.length cs_51]) (((a0.Aggs.length : Int) - 0).toNat + 1) ?_ ?_
 have s:=s.pk1
 exact ⟨y_2.1,0,_,_,H,hq_9,q.sub (zc (zc (zc (zc (zc zz))))),s.trunc 1⟩
 rintro k_l1 a w ⟨x_49,x_53,v_50,cs_51,H,hq_52,q,s⟩
 rcases k_l1 with _ | k_l1
 cases H
 rw [check_group.l1.eq_2] at H
 refine zq<|zr<|zl q (r_ibin q rfl rfl rfl) fun a q=>zn<|zq ?_
 refine wp_cond_split (q.ev rfl) (fun (hb_79 : (decide (x_53 < (a0.Aggs.length : Int))) = true)=>?_) fun hb_79=>?_
 rw [ifb_t hb_79] at H
 refine wp_skip<|zq ?_
 refine wp_block ?_
 refine zq<|zr ?_
 obtain ⟨y_80,h_81,H⟩:=bs H
 obtain ⟨b_82,o_83,c_84,cs_85,hv_86,hr_87,hc_88,h_810,h_811⟩:=h0_2.ix h_81
 subst hr_87
 refine zl q (r_indexAddr_R underlying24 sizeOf49 hv_86 h_810 h_811 q rfl rfl) fun a q=>zl q (r_loadA (cs:=[I6 y_80.Kind,.string y_80.Col]) isAgg49 sizeOf49 rfl q rfl (fun j v hv=>(s.ra hRA nil_not).cell (hc_88 j v hv))) fun a q=>?_
 refine sl_alloc zeroValue49 s q (by decide) rfl rfl fun a w b_89 s q=>?_
 refine sl_storeA (vs:=[I6 y_80.Kind,.string y_80.Col]) (c':=[I6 y_80.Kind,.string y_80.Col]) sizeOf49 s q rfl rfl rfl rfl (zc (zc zz)) (Nat.le_of_ble_eq_true rfl) rfl fun a w s q=>?_
 refine zn<|zq<|zr<|zl q (r_loadA (cs:=[I6 y_80.Kind,.string y_80.Col]) isAgg49 sizeOf49 rfl q rfl (s.cells_of (m:=2) z0 rfl)) fun a q=>zm q rfl fun a q=>?_
 obtain ⟨y_90,h_91,H⟩:=bs H
 refine sl_callV call124 s q (by decide) rfl rfl rfl (check_aggregate.calls y_80 a1 (lentOf_sub [] _) (h1_0.mono (s.raLe0 hRA nil_not)) h_91) fun a w s q=>?_
 refine zm q rfl fun a q=>zl q (r_extract q rfl rfl) fun a q=>zl q (r_extract q rfl rfl) fun a q=>?_
 refine sl_alloc zeroValue47 s q (by decide) rfl rfl fun a w b_92 s q=>?_
 refine sl_storeA (vs:=[.string y_90.1.Name,I6 y_90.1.Kind]) (c':=[.string y_90.1.Name,I6 y_90.1.Kind]) sizeOf47 s q rfl rfl rfl rfl (zc (zc zz)) (Nat.le_of_ble_eq_true rfl) rfl fun a w s q=>?_
 refine za q rfl fun a q=>zn<|zq<|zq<|zr<|zm q rfl fun a q=>zl q (r_un q rfl (u_not _)) fun a q=>zn ?_
 refine wp_cond_split (q.ev rfl) (fun (hb_93 : (!y_90.2) = true)=>?_) fun hb_93=>?_
 rw [ifb_t hb_93] at H
 refine zq<|zr<|za q rfl fun a q=>za q rfl fun a q=>zn ?_
 have s:=s.row_nil 47 2
 have hq_95 : Reps ty_api_Col R_4 [] ([] : List api_Col):=Reps.nil _ _
 obtain rfl:=Option.some.inj H
 refine wp_ret ?_
 repeat first | refine zt ?_ | refine zb ?_ | refine zo ?_
 exact ret_2 results93 q (rv_tmp q rfl) (rv_tmp q rfl) ⟨_,rfl,_,_,_,rfl,(s.trunc 1),hRL,hq_95⟩
 rw [ifb_f hb_93] at H
 refine wp_skip<|zr<|zm q rfl fun a q=>zl q (r_loadA (cs:=[.string y_90.1.Name,I6 y_90.1.Kind]) isAgg47 sizeOf47 rfl q rfl (s.cells_of (m:=2) z0 rfl)) fun a q=>?_
 refine sl_buildSliceF (zc:=[.string (⟨#[]⟩ : ByteArray),I6 0]) (ps:=[(0,.agg #[.string y_90.1.Name,I6 y_90.1.Kind])]) (c:=[.string y_90.1.Name,I6 y_90.1.Kind]) [[.string y_90.1.Name,I6 y_90.1.Kind]] underlying22 sizeOf47 zeroValue47 rfl (pc_cons rfl pc_nil) rfl rfl (Nat.le_of_ble_eq_true rfl) rfl (zc zz) rfl s q (by decide) rfl fun a w b_96 s q=>?_
 obtain ⟨y_97,h_98,H⟩:=bs H
 have s:=s.pk3
 refine sl_append_L (ty:=ty_api_Col) (ys:=[y_90.1]) elT22 (by decide) rfl hq_52 rfl (Reps.cons (show Ty.rep ty_api_Col _ [.string y_90.1.Name,I6 y_90.1.Kind] y_90.1 from rfl) (Reps.nil _ _)) rfl h_98 s q (by decide) rfl rfl rfl fun a w v_99 cs_100 hq_101 s q=>?_
 refine za q rfl fun a q=>zn<|zr<|zl q (r_ibin q rfl rfl rfl) fun a q=>zm q rfl fun a q=>zn ?_
 exact ⟨_,Nat.lt_succ_self _,y_97,(IntKind.i64.wrap (x_53 + 1)),_,_,H,hq_101,q.sub (zc (zc (zc (zc (zc zz))))),s.trunc 1⟩
 rw [ifb_f hb_79] at H
 refine wp_exit ?_
 refine zq<|zr<|zm q rfl fun a q=>zm q rfl fun a q=>?_
 have ho_103:=s.row_one z0
 refine zl q (r_buildC (ps:=[(0,v_50)]) (c:=[v_50,.slice none 0 0]) underlying35 zeroValue35 places35 q rfl (pc_cons (cells1 ho_103) pc_nil) rfl rfl) fun a q=>?_
 obtain ⟨y_104,h_105,H⟩:=bs H
 refine sl_callV call28 s q (by decide) rfl rfl rfl (table_Check.calls (⟨x_49,[]⟩ : api_Table) (lentOf_sub [] _) (s.lend_row0 z0 hq_52 rfl rfl) (SlR.nil (tySl ty_api_Value) _) h_105) fun a w s q=>?_
 refine zl q (r_ibin q rfl rfl rfl) fun a q=>za q rfl fun a q=>za q rfl fun a q=>zn ?_
 obtain rfl:=Option.some.inj H
 refine wp_ret ?_
 repeat first | refine zt ?_ | refine zb ?_ | refine zo ?_
 exact ret_2 results93 q (rv_tmp q rfl) (rv_tmp q rfl) ⟨_,rfl,_,_,_,rfl,s,hRL,hq_52⟩
theorem slices_Equal_api_Col_api_Col.calls (a0 : List api_Col) (a1 : List api_Col) {w0 : World} {RA : Hp} {v0_0 : Value} {v1_0 : Value} (hRA : RA.sub w0) (h0_0 : SlR ty_api_Col RA v0_0 a0) (h1_0 : SlR ty_api_Col RA v1_0 a1) {r : Bool} (H : slices_Equal_api_Col_api_Col a0 a1 = some r) : CallsV prog 63 #[v0_0,v1_0] w0 (.bool r):=by
 unfold slices_Equal_api_Col_api_Col at H
 refine enter (args:=[v0_0,v1_0]) func63 rfl ntmps63 rfl fun a q=>?_
 have s:=St.init (R:=fun _=>none) (w:=w0) (fun _ _ h=>by cases h)
 have hRL:=RLe.refl (M:=[]) w0 (fun _=>none)
 refine zq<|zr<|za q rfl fun a q=>zn<|zq<|zq<|zr<|zm q rfl fun a q=>zl q (r_len_R underlying22 h0_0 q rfl) fun a q=>zm q rfl fun a q=>zl q (r_len_R underlying22 h1_0 q rfl) fun a q=>zl q (r_ibin q rfl rfl rfl) fun a q=>zn ?_
 refine wp_cond_split (q.ev rfl) (fun (hb_1 : ((a0.length : Int) != (a1.length : Int)) = true)=>?_) fun hb_1=>?_
 rw [ifb_t hb_1] at H
 refine zq<|zr<|za q rfl fun a q=>zn ?_
 obtain rfl:=Option.some.inj H
 refine wp_ret ?_
 repeat first | refine zt ?_ | refine zb ?_ | refine zo ?_
 exact ret_1 results63 q (rv_tmp q rfl) ⟨rfl,s.bel⟩
 rw [ifb_f hb_1] at H
 refine wp_skip<|zq<|zq<|zr<|zm q rfl fun a q=>zl q (r_len_R underlying22 h0_0 q rfl) fun a q=>zm q rfl fun a q=>zn ?_
 refine wp_block ?_
 refine wp_loop_k (fun k_l0 a w=>∃ (x_41 : Int),slices_Equal_api_Col_api_Col.l0 a0 a1 k_l0 x_41 = some r ∧ Kn 26 a [(0,v0_0),(1,v1_0),(12,I6 (a0.length : Int)),(13,I6 x_41)] ∧ St [] w0 w (fun _=>none) []) (((a0.length : Int) - 0).toNat + 1) ?_ ?_
 exact ⟨0,H,q.sub (zc (zc (zc (zc zz)))),s⟩
 rintro k_l0 a w ⟨x_41,H,q,s⟩
 rcases k_l0 with _ | k_l0
 cases H
 rw [slices_Equal_api_Col_api_Col.l0.eq_2] at H
 refine zq<|zr<|zl q (r_ibin q rfl rfl rfl) fun a q=>zn<|zq ?_
 refine wp_cond_split (q.ev rfl) (fun (hb_81 : (decide (x_41 < (a0.length : Int))) = true)=>?_) fun hb_81=>?_
 rw [ifb_t hb_81] at H
 refine wp_skip<|zq ?_
 refine wp_block ?_
 refine zq<|zr<|zm q rfl fun a q=>za q rfl fun a q=>zn<|zq ?_
 refine par_region (C:=fun w=>St [] w0 w (fun _=>none) []) [(0,true),(1,true),(2,true),(3,true),(4,true),(5,true),(6,true),(7,true),(8,true)] mixed (by kernel_rfl) s (fun w s=>s) fun w s=>?_
 refine zp rfl q (fun w s=>r_move q rfl) fun a q=>zp rfl q (fun w s=>r_move q rfl) fun a q=>?_
 obtain ⟨y_100,h_101,H⟩:=bs H
 obtain ⟨b_102,o_103,c_104,cs_105,hv_106,hr_107,hc_108,h_1010,h_1011⟩:=h0_0.ix h_101
 subst hr_107
 refine zp rfl q (fun w s=>r_indexAddr_R underlying22 sizeOf47 hv_106 h_1010 h_1011 q rfl rfl) fun a q=>zp rfl q (fun w s=>r_loadA (cs:=[.string y_100.Name,I6 y_100.Kind]) isAgg47 sizeOf47 rfl q rfl (fun j v hv=>(s.ra hRA nil_not).cell (hc_108 j v hv))) fun a q=>zp rfl q (fun w s=>r_move q rfl) fun a q=>zp rfl q (fun w s=>r_move q rfl) fun a q=>?_
 obtain ⟨y_109,h_110,H⟩:=bs H
 obtain ⟨b_111,o_112,c_113,cs_114,hv_115,hr_116,hc_117,h_1100,h_1101⟩:=h1_0.ix h_110
 subst hr_116
 refine zp rfl q (fun w s=>r_indexAddr_R underlying22 sizeOf47 hv_115 h_1100 h_1101 q rfl rfl) fun a q=>zp rfl q (fun w s=>r_loadA (cs:=[.string y_109.Name,I6 y_109.Kind]) isAgg47 sizeOf47 rfl q rfl (fun j v hv=>(s.ra hRA nil_not).cell (hc_117 j v hv))) fun a q=>zp rfl q (fun w s=>r_sne (by kernel_rfl) (eqs47 y_100 y_109) q rfl rfl) fun a q=>?_
 refine wpPar_nil (NoP_nil ?_)
 refine wp_cond_split (q.ev rfl) (fun (hb_118 : (!decide (y_100 = y_109)) = true)=>?_) fun hb_118=>?_
 rw [ifb_t hb_118] at H
 refine zq<|zr<|za q rfl fun a q=>zn ?_
 obtain rfl:=Option.some.inj H
 refine wp_ret ?_
 repeat first | refine zt ?_ | refine zb ?_ | refine zo ?_
 exact ret_1 results63 q (rv_tmp q rfl) ⟨rfl,s.bel⟩
 rw [ifb_f hb_118] at H
 refine wp_skip<|zr<|zl q (r_ibin q rfl rfl rfl) fun a q=>zm q rfl fun a q=>zn ?_
 exact ⟨_,Nat.lt_succ_self _,(IntKind.i64.wrap (x_41 + 1)),H,q.sub (zc (zc (zc (zc zz)))),s⟩
 rw [ifb_f hb_81] at H
 refine wp_exit ?_
 refine zq<|zr<|za q rfl fun a q=>zn ?_
 obtain rfl:=Option.some.inj H
 refine wp_ret ?_
 repeat first | refine zt ?_ | refine zb ?_ | refine zo ?_
 exact ret_1 results63 q (rv_tmp q rfl) ⟨rfl,s.bel⟩
theorem check_checker_rows.calls (a0 : check_checker) (a1 : api_Node) {w0 : World} {R : Hp} {RA : Hp} {b0 : Nat} {o0 : Nat} {v0_0 : Value} {v0_1 : Value} {v0_2 : Value} {v0_3 : Value} {v1_0 : Value} {v1_1 : Value} {v1_2 : Value} (hRA : RA.sub w0) (hR : R.sub w0) (hc0 : ∀ j u,([v0_0,v0_1,v0_2,v0_3] : List Value)[j]? = some u → RA.cell b0 (o0 + j) = some u) (h0_0 : SlR ty_api_Schema R v0_0 a0.schemas) (h0_1 : SlB ty_api_Node RA R v0_1 a0.n) (h0_2 : SlB (tySl ty_api_Col) RA R v0_2 a0.inputs) (h0_3 : SlB (tySl ty_api_Col) RA R v0_3 a0.cols) (h1_0 : SlR (tyInt .i64) RA v1_0 a1.L) (h1_1 : SlR tyStr RA v1_1 a1.Names) (h1_2 : SlR ty_api_Agg RA v1_2 a1.Aggs) {r : (List api_Col) × Bool} (H : check_checker_rows a0 a1 = some r) : Calls prog 70 #[.pointer (some ⟨b0,o0,none⟩),.agg #[I6 a1.Kind,.string a1.S,I6 a1.N,I6 a1.From,I6 a1.To,I6 a1.V.Kind,I6 a1.V.N,.string a1.V.S,I6 a1.V.H.a0,I6 a1.V.H.a1,I6 a1.V.H.a2,I6 a1.V.H.a3,I6 a1.V.H.a4,I6 a1.V.H.a5,I6 a1.V.H.a6,I6 a1.V.H.a7,v1_0,v1_1,v1_2]] w0 (Rets fun v w'=>∃ (R' : Hp) (u0 : Value),v = .tuple #[u0,.bool r.2] ∧ St [] w0 w' R' [] ∧ RLe [] w0 R R' ∧ SlR ty_api_Col R' u0 r.1):=by
 unfold check_checker_rows at H
 refine enter (args:=[.pointer (some ⟨b0,o0,none⟩),.agg #[I6 a1.Kind,.string a1.S,I6 a1.N,I6 a1.From,I6 a1.To,I6 a1.V.Kind,I6 a1.V.N,.string a1.V.S,I6 a1.V.H.a0,I6 a1.V.H.a1,I6 a1.V.H.a2,I6 a1.V.H.a3,I6 a1.V.H.a4,I6 a1.V.H.a5,I6 a1.V.H.a6,I6 a1.V.H.a7,v1_0,v1_1,v1_2]]) func70 rfl ntmps70 rfl fun a q=>?_
 have s:=St.init hR
 have hRL:=RLe.refl (M:=[]) w0 R
 refine zq<|zr ?_
 refine sl_box s q (by decide) rfl rfl (c:=[I6 a1.Kind,.string a1.S,I6 a1.N,I6 a1.From,I6 a1.To,I6 a1.V.Kind,I6 a1.V.N,.string a1.V.S,I6 a1.V.H.a0,I6 a1.V.H.a1,I6 a1.V.H.a2,I6 a1.V.H.a3,I6 a1.V.H.a4,I6 a1.V.H.a5,I6 a1.V.H.a6,I6 a1.V.H.a7,v1_0,v1_1,v1_2]) rfl fun a w b_1 s q=>?_
 refine za q rfl fun a q=>za q rfl fun a q=>zn<|zq ?_
 refine par_region (C:=fun w=>St [] w0 w R [.cells b_1 [I6 a1.Kind,.string a1.S,I6 a1.N,I6 a1.From,I6 a1.To,I6 a1.V.Kind,I6 a1.V.N,.string a1.V.S,I6 a1.V.H.a0,I6 a1.V.H.a1,I6 a1.V.H.a2,I6 a1.V.H.a3,I6 a1.V.H.a4,I6 a1.V.H.a5,I6 a1.V.H.a6,I6 a1.V.H.a7,v1_0,v1_1,v1_2] 58]) [(0,true),(1,true),(2,true),(3,true),(4,true),(5,true),(6,true),(7,true),(8,true),(9,true),(10,true)] mixed (by kernel_rfl) s (fun w s=>s) fun w s=>?_
 refine zp rfl q (fun w s=>r_move q rfl) fun a q=>zp rfl q (fun w s=>r_nilCheck q rfl) fun a q=>zp rfl q (fun w s=>r_fieldAddr underlying80 rfl sizeOf62 q rfl) fun a q=>zp rfl q (fun w s=>r_load isAgg62 q rfl ((s.ra hRA nil_not).cell (hc0 3 _ rfl))) fun a q=>zp rfl q (fun w s=>r_fieldAddr underlying58 rfl sizeOf43 q rfl) fun a q=>zp rfl q (fun w s=>r_load isAgg43 q rfl (s.cell z0 rfl)) fun a q=>?_
 obtain ⟨y_22,h_23,H⟩:=bs H
 obtain ⟨b_24,o_25,c_26,cs_27,hv_28,hr_29,hc_30,h_230,h_231⟩:=h1_0.ix h_23
 subst hr_29
 refine zp rfl q (fun w s=>r_indexAddr_R underlying43 sizeOf3 hv_28 h_230 h_231 q rfl rfl) fun a q=>zp rfl q (fun w s=>r_load isAgg3 q rfl ((s.ra hRA nil_not).cell (hc_30 0 _ rfl))) fun a q=>?_
 obtain ⟨y_31,h_32,H⟩:=bs H
 obtain ⟨b_33,o_34,c_35,cs_36,hv_37,hr_38,hc_39,h_320,h_321⟩:=h0_3.ix h_32
 obtain ⟨v_40,rfl,hs_41⟩:=hr_38
 refine zp rfl q (fun w s=>r_indexAddr_R underlying62 sizeOf22 hv_37 h_320 h_321 q rfl rfl) fun a q=>zp rfl q (fun w s=>r_load isAgg22 q rfl ((s.ra hRA nil_not).cell (hc_39 0 _ rfl))) fun a q=>zp rfl q (fun w s=>r_assign q rfl) fun a q=>?_
 refine wpPar_nil (NoP_nil ?_)
 refine zq<|zq<|zr<|zl q (r_fieldAddr underlying58 rfl sizeOf3 q rfl) fun a q=>zl q (r_load isAgg3 q rfl (s.cell z0 rfl)) fun a q=>zn ?_
 refine wp_block ?_
 refine zq<|zr<|zl q (r_ibin q rfl rfl rfl) fun a q=>za q rfl fun a q=>zn ?_
 refine wp_cond_split (q.ev rfl) (fun (hb_42 : (a1.Kind == 2) = true)=>?_) fun hb_42=>?_
 rw [ifb_t hb_42] at H
 refine zq<|zr<|zm q rfl fun a q=>zm q rfl fun a q=>zl q (r_fieldAddr underlying58 rfl sizeOf43 q rfl) fun a q=>zl q (r_load isAgg43 q rfl (s.cell z0 rfl)) fun a q=>?_
 obtain ⟨y_43,h_44,H⟩:=bs H
 obtain ⟨b_45,o_46,c_47,cs_48,hv_49,hr_50,hc_51,h_440,h_441⟩:=h1_0.ix h_44
 subst hr_50
 refine zl q (r_indexAddr_R underlying43 sizeOf3 hv_49 h_440 h_441 q rfl rfl) fun a q=>zl q (r_load isAgg3 q rfl ((s.ra hRA nil_not).cell (hc_51 0 _ rfl))) fun a q=>zm q rfl fun a q=>?_
 cases H
 rw [ifb_f hb_42] at H
 refine zq<|zr<|zl q (r_ibin q rfl rfl rfl) fun a q=>za q rfl fun a q=>zn ?_
 refine wp_cond_split (q.ev rfl) (fun (hb_52 : (a1.Kind == 3) = true)=>?_) fun hb_52=>?_
 rw [ifb_t hb_52] at H
 refine zq<|zr<|zm q rfl fun a q=>zl q (r_fieldAddr underlying58 rfl sizeOf23 q rfl) fun a q=>zl q (r_load isAgg23 q rfl (s.cell z0 rfl)) fun a q=>?_
 obtain ⟨y_53,h_54,H⟩:=bs H
 refine sl_call call91 q (by decide) rfl rfl rfl (check_pick.calls y_31 a1.Names (lentOf_sub [] _) s.sub (hs_41.mono s.rLe0) (h1_1.mono (s.raLe0 hRA nil_not)) h_54) fun a v_ w hv_ q=>?_
 obtain ⟨R_55,v_58,cs_59,hv_,hr_,hl_56,hq_60⟩:=hv_
 have hv_:=hv_.symm
 subst hv_
 obtain ⟨s,hl_56⟩:=s.sp0.back hr_ hl_56
 have s:=s.un1
 have hRL:=hRL.trans hl_56
 refine zm q rfl fun a q=>zl q (r_extract q rfl rfl) fun a q=>zl q (r_extract q rfl rfl) fun a q=>za q rfl fun a q=>za q rfl fun a q=>zn<|zq<|zr<|zm q rfl fun a q=>zm q rfl fun a q=>zm q rfl fun a q=>?_
 rcases or_b y_53.2 with hb_61 | hb_61
 rw [ifb_t hb_61] at H
 refine zw q (wtt hb_61) (r_move q rfl) fun a q=>zw q (wtt hb_61) (r_len_O underlying22 s z0 q rfl) fun a q=>zw q (wtt hb_61) (r_ibin q rfl rfl rfl) fun a q=>zl q (r_pick_t hb_61 q rfl rfl) fun a q=>za q rfl fun a q=>za q rfl fun a q=>zn ?_
 obtain ⟨R_62,s,hl_64,hs_63⟩:=s.fz_row hq_60 rfl rfl
 have hRL:=hRL.trans hl_64
 obtain rfl:=Option.some.inj H
 refine wp_ret ?_
 repeat first | refine zt ?_ | refine zb ?_ | refine zo ?_
 exact ret_2 results70 q (rv_tmp q rfl) (rv_tmp q rfl) ⟨_,rfl,_,_,rfl,(s.trunc 0),hRL,hs_63⟩
 rw [ifb_f hb_61] at H
 refine zsw q (wtf hb_61) fun a q=>zsw q (wtf hb_61) fun a q=>zsw q (wtf hb_61) fun a q=>zl q (r_pick_f hb_61 q rfl rfl) fun a q=>za q rfl fun a q=>za q rfl fun a q=>zn ?_
 obtain ⟨R_65,s,hl_67,hs_66⟩:=s.fz_row hq_60 rfl rfl
 have hRL:=hRL.trans hl_67
 obtain rfl:=Option.some.inj H
 refine wp_ret ?_
 repeat first | refine zt ?_ | refine zb ?_ | refine zo ?_
 exact ret_2 results70 q (rv_tmp q rfl) (rv_tmp q rfl) ⟨_,rfl,_,_,rfl,(s.trunc 0),hRL,hs_66⟩
 rw [ifb_f hb_52] at H
 refine zq<|zr<|zl q (r_ibin q rfl rfl rfl) fun a q=>za q rfl fun a q=>zn ?_
 refine wp_cond_split (q.ev rfl) (fun (hb_68 : (a1.Kind == 4) = true)=>?_) fun hb_68=>?_
 rw [ifb_t hb_68] at H
 refine zq<|zr<|zm q rfl fun a q=>zl q (r_fieldAddr underlying58 rfl sizeOf3 q rfl) fun a q=>zl q (r_load isAgg3 q rfl (s.cell z0 rfl)) fun a q=>zl q (r_ibin q rfl rfl rfl) fun a q=>zm q rfl fun a q=>?_
 rcases or_b (decide (a1.N ≥ 1)) with hb_69 | hb_69
 rw [ifb_t hb_69] at H
 refine zw q (wtt hb_69) (r_move q rfl) fun a q=>zw q (wtt hb_69) (r_buildC (ps:=[(0,.string (⟨#[116,105,109,101]⟩ : ByteArray)),(1,I6 1)]) (c:=[.string (⟨#[116,105,109,101]⟩ : ByteArray),I6 1]) underlying47 zeroValue47 places47 q rfl (pc_cons rfl (pc_cons rfl pc_nil)) rfl rfl) fun a q=>?_
 cases H
 rw [ifb_f hb_69] at H
 refine zsw q (wtf hb_69) fun a q=>zsw q (wtf hb_69) fun a q=>zsw q (wtf hb_69) fun a q=>zl q (r_pick_f hb_69 q rfl rfl) fun a q=>za q rfl fun a q=>za q rfl fun a q=>zn ?_
 obtain rfl:=Option.some.inj H
 refine wp_ret ?_
 repeat first | refine zt ?_ | refine zb ?_ | refine zo ?_
 exact ret_2 results70 q (rv_tmp q rfl) (rv_tmp q rfl) ⟨_,rfl,_,_,rfl,(s.trunc 0),hRL,hs_41⟩
 rw [ifb_f hb_68] at H
 refine zq<|zr<|zl q (r_ibin q rfl rfl rfl) fun a q=>za q rfl fun a q=>zn ?_
 refine wp_cond_split (q.ev rfl) (fun (hb_70 : (a1.Kind == 5) = true)=>?_) fun hb_70=>?_
 rw [ifb_t hb_70] at H
 refine zq<|zr<|zl q (r_loadA (cs:=[I6 a1.Kind,.string a1.S,I6 a1.N,I6 a1.From,I6 a1.To,I6 a1.V.Kind,I6 a1.V.N,.string a1.V.S,I6 a1.V.H.a0,I6 a1.V.H.a1,I6 a1.V.H.a2,I6 a1.V.H.a3,I6 a1.V.H.a4,I6 a1.V.H.a5,I6 a1.V.H.a6,I6 a1.V.H.a7,v1_0,v1_1,v1_2]) isAgg58 sizeOf58 rfl q rfl (s.cells_of (m:=19) z0 rfl)) fun a q=>zm q rfl fun a q=>?_
 obtain ⟨y_71,h_72,H⟩:=bs H
 refine sl_call call93 q (by decide) rfl rfl rfl (check_group.calls a1 y_31 (lentOf_sub [] _) s.sub (h1_0.mono (s.raLe0 hRA nil_not)) (h1_1.mono (s.raLe0 hRA nil_not)) (h1_2.mono (s.raLe0 hRA nil_not)) (hs_41.mono s.rLe0) h_72) fun a v_ w hv_ q=>?_
 obtain ⟨R_73,v_76,cs_77,hv_,hr_,hl_74,hq_78⟩:=hv_
 have hv_:=hv_.symm
 subst hv_
 obtain ⟨s,hl_74⟩:=s.sp0.back hr_ hl_74
 have s:=s.un1
 have hRL:=hRL.trans hl_74
 refine zl q (r_extract q rfl rfl) fun a q=>zl q (r_extract q rfl rfl) fun a q=>za q rfl fun a q=>za q rfl fun a q=>zn ?_
 obtain ⟨R_79,s,hl_81,hs_80⟩:=s.fz_row hq_78 rfl rfl
 have hRL:=hRL.trans hl_81
 obtain rfl:=Option.some.inj H
 refine wp_ret ?_
 repeat first | refine zt ?_ | refine zb ?_ | refine zo ?_
 exact ret_2 results70 q (rv_tmp q rfl) (rv_tmp q rfl) ⟨_,rfl,_,_,rfl,(s.trunc 0),hRL,hs_80⟩
 rw [ifb_f hb_70] at H
 refine zq<|zr<|zl q (r_ibin q rfl rfl rfl) fun a q=>za q rfl fun a q=>zn ?_
 refine wp_cond_split (q.ev rfl) (fun (hb_82 : (a1.Kind == 6) = true)=>?_) fun hb_82=>?_
 rw [ifb_t hb_82] at H
 refine zq<|zr<|zm q rfl fun a q=>zl q (r_fieldAddr underlying58 rfl sizeOf9 q rfl) fun a q=>zl q (r_load isAgg9 q rfl (s.cell z0 rfl)) fun a q=>?_
 obtain ⟨y_83,h_84,H⟩:=bs H
 refine sl_callV call33 s q (by decide) rfl rfl rfl (table_Find.calls y_31 a1.S (lentOf_sub [] _) (hs_41.mono s.rLe0) h_84) fun a w s q=>?_
 refine za q rfl fun a q=>zn<|zq ?_
 refine par_region (C:=fun w=>St [] w0 w R [.cells b_1 [I6 a1.Kind,.string a1.S,I6 a1.N,I6 a1.From,I6 a1.To,I6 a1.V.Kind,I6 a1.V.N,.string a1.V.S,I6 a1.V.H.a0,I6 a1.V.H.a1,I6 a1.V.H.a2,I6 a1.V.H.a3,I6 a1.V.H.a4,I6 a1.V.H.a5,I6 a1.V.H.a6,I6 a1.V.H.a7,v1_0,v1_1,v1_2] 58]) [(0,true),(1,true),(2,true),(3,true),(4,true),(5,true),(6,true),(7,true),(8,true),(9,true),(10,true),(11,true),(12,true),(13,true),(14,true),(15,true),(16,true),(17,true),(18,true),(19,true),(20,true),(21,true),(22,true)] mixed (by kernel_rfl) s (fun w s=>s) fun w s=>?_
 refine zp rfl q (fun w s=>r_move q rfl) fun a q=>zp rfl q (fun w s=>r_fieldAddr underlying58 rfl sizeOf3 q rfl) fun a q=>zp rfl q (fun w s=>r_load isAgg3 q rfl (s.cell z0 rfl)) fun a q=>zp rfl q (fun w s=>r_ibin q rfl rfl rfl) fun a q=>zp rfl q (fun w s=>r_move q rfl) fun a q=>?_
 rcases or_b (decide (a1.N ≥ 1)) with hb_97 | hb_97
 rw [ifb_t hb_97] at H
 refine zpw rfl q (wtt hb_97) (fun w s=>r_fieldAddr underlying58 rfl sizeOf3 q rfl) fun a q=>zpw rfl q (wtt hb_97) (fun w s=>r_load isAgg3 q rfl (s.cell z0 rfl)) fun a q=>zpw rfl q (wtt hb_97) (fun w s=>r_ibin q rfl rfl rfl) fun a q=>zp rfl q (fun w s=>r_pick_t hb_97 q rfl rfl) fun a q=>zp rfl q (fun w s=>r_move q rfl) fun a q=>?_
 rcases or_b (decide (a1.N ≤ 1000)) with hb_98 | hb_98
 rw [ifb_t hb_98] at H
 refine zpw rfl q (wtt hb_98) (fun w s=>r_move q rfl) fun a q=>zpw rfl q (wtt hb_98) (fun w s=>r_ibin q rfl rfl rfl) fun a q=>zp rfl q (fun w s=>r_pick_t hb_98 q rfl rfl) fun a q=>zp rfl q (fun w s=>r_move q rfl) fun a q=>?_
 rcases or_b (decide (y_83 ≥ 0)) with hb_99 | hb_99
 rw [ifb_t hb_99] at H
 refine zpw rfl q (wtt hb_99) (fun w s=>r_move q rfl) fun a q=>zpw rfl q (wtt hb_99) (fun w s=>r_move q rfl) fun a q=>?_
 obtain ⟨y_100,h_101,H⟩:=bs H
 obtain ⟨b_102,o_103,c_104,cs_105,hv_106,hr_107,hc_108,h_1010,h_1011⟩:=hs_41.ix h_101
 subst hr_107
 refine zpw rfl q (wtt hb_99) (fun w s=>r_indexAddr_R underlying22 sizeOf47 hv_106 h_1010 h_1011 q rfl rfl) fun a q=>zpw rfl q (wtt hb_99) (fun w s=>r_fieldAddr underlying47 rfl sizeOf3 q rfl) fun a q=>zpw rfl q (wtt hb_99) (fun w s=>r_load isAgg3 q rfl (s.sub.cell (hc_108 1 _ rfl))) fun a q=>zpw rfl q (wtt hb_99) (fun w s=>r_ibin q rfl rfl rfl) fun a q=>zp rfl q (fun w s=>r_pick_t hb_99 q rfl rfl) fun a q=>zp rfl q (fun w s=>r_assign q rfl) fun a q=>zp rfl q (fun w s=>r_assign q rfl) fun a q=>?_
 refine wpPar_nil (NoP_nil ?_)
 obtain rfl:=Option.some.inj H
 refine wp_ret ?_
 repeat first | refine zt ?_ | refine zb ?_ | refine zo ?_
 exact ret_2 results70 q (rv_tmp q rfl) (rv_tmp q rfl) ⟨_,rfl,_,_,rfl,(s.trunc 0),hRL,hs_41⟩
 rw [ifb_f hb_99] at H
 refine zps rfl q (wtf hb_99) fun a q=>zps rfl q (wtf hb_99) fun a q=>zps rfl q (wtf hb_99) fun a q=>zps rfl q (wtf hb_99) fun a q=>zps rfl q (wtf hb_99) fun a q=>zps rfl q (wtf hb_99) fun a q=>zp rfl q (fun w s=>r_pick_f hb_99 q rfl rfl) fun a q=>zp rfl q (fun w s=>r_assign q rfl) fun a q=>zp rfl q (fun w s=>r_assign q rfl) fun a q=>?_
 refine wpPar_nil (NoP_nil ?_)
 obtain rfl:=Option.some.inj H
 refine wp_ret ?_
 repeat first | refine zt ?_ | refine zb ?_ | refine zo ?_
 exact ret_2 results70 q (rv_tmp q rfl) (rv_tmp q rfl) ⟨_,rfl,_,_,rfl,(s.trunc 0),hRL,hs_41⟩
 rw [ifb_f hb_98] at H
 refine zps rfl q (wtf hb_98) fun a q=>zps rfl q (wtf hb_98) fun a q=>zp rfl q (fun w s=>r_pick_f hb_98 q rfl rfl) fun a q=>zp rfl q (fun w s=>r_move q rfl) fun a q=>zps rfl q rfl fun a q=>zps rfl q rfl fun a q=>zps rfl q rfl fun a q=>zps rfl q rfl fun a q=>zps rfl q rfl fun a q=>zps rfl q rfl fun a q=>zp rfl q (fun w s=>r_pick q rfl rfl rfl) fun a q=>zp rfl q (fun w s=>r_assign q rfl) fun a q=>zp rfl q (fun w s=>r_assign q rfl) fun a q=>?_
 refine wpPar_nil (NoP_nil ?_)
 obtain rfl:=Option.some.inj H
 refine wp_ret ?_
 repeat first | refine zt ?_ | refine zb ?_ | refine zo ?_
 exact ret_2 results70 q (rv_tmp q rfl) (rv_tmp q rfl) ⟨_,rfl,_,_,rfl,(s.trunc 0),hRL,hs_41⟩
 rw [ifb_f hb_97] at H
 refine zps rfl q (wtf hb_97) fun a q=>zps rfl q (wtf hb_97) fun a q=>zps rfl q (wtf hb_97) fun a q=>zp rfl q (fun w s=>r_pick_f hb_97 q rfl rfl) fun a q=>zp rfl q (fun w s=>r_move q rfl) fun a q=>zps rfl q rfl fun a q=>zps rfl q rfl fun a q=>zp rfl q (fun w s=>r_pick q rfl rfl rfl) fun a q=>zp rfl q (fun w s=>r_move q rfl) fun a q=>zps rfl q rfl fun a q=>zps rfl q rfl fun a q=>zps rfl q rfl fun a q=>zps rfl q rfl fun a q=>zps rfl q rfl fun a q=>zps rfl q rfl fun a q=>zp rfl q (fun w s=>r_pick q rfl rfl rfl) fun a q=>zp rfl q (fun w s=>r_assign q rfl) fun a q=>zp rfl q (fun w s=>r_assign q rfl) fun a q=>?_
 refine wpPar_nil (NoP_nil ?_)
 obtain rfl:=Option.some.inj H
 refine wp_ret ?_
 repeat first | refine zt ?_ | refine zb ?_ | refine zo ?_
 exact ret_2 results70 q (rv_tmp q rfl) (rv_tmp q rfl) ⟨_,rfl,_,_,rfl,(s.trunc 0),hRL,hs_41⟩
 rw [ifb_f hb_82] at H
 refine zq<|zr<|zl q (r_ibin q rfl rfl rfl) fun a q=>za q rfl fun a q=>zn ?_
 refine wp_cond_split (q.ev rfl) (fun (hb_109 : (a1.Kind == 7) = true)=>?_) fun hb_109=>?_
 rw [ifb_t hb_109] at H
 refine zq ?_
 refine parT_region (C:=fun w=>St [] w0 w R [.cells b_1 [I6 a1.Kind,.string a1.S,I6 a1.N,I6 a1.From,I6 a1.To,I6 a1.V.Kind,I6 a1.V.N,.string a1.V.S,I6 a1.V.H.a0,I6 a1.V.H.a1,I6 a1.V.H.a2,I6 a1.V.H.a3,I6 a1.V.H.a4,I6 a1.V.H.a5,I6 a1.V.H.a6,I6 a1.V.H.a7,v1_0,v1_1,v1_2] 58]) 14 [(0,true),(1,true),(2,true),(3,true),(4,true),(5,true),(6,true),(7,true),(8,true),(9,true),(10,true),(11,false),(12,true),(13,true)] mixed (by kernel_rfl) s (fun w s=>s) fun w s=>?_
 refine zp rfl q (fun w s=>r_move q rfl) fun a q=>zp rfl q (fun w s=>r_move q rfl) fun a q=>zp rfl q (fun w s=>r_nilCheck q rfl) fun a q=>zp rfl q (fun w s=>r_fieldAddr underlying80 rfl sizeOf62 q rfl) fun a q=>zp rfl q (fun w s=>r_load isAgg62 q rfl ((s.ra hRA nil_not).cell (hc0 3 _ rfl))) fun a q=>zp rfl q (fun w s=>r_fieldAddr underlying58 rfl sizeOf43 q rfl) fun a q=>zp rfl q (fun w s=>r_load isAgg43 q rfl (s.cell z0 rfl)) fun a q=>?_
 obtain ⟨y_130,h_131,H⟩:=bs H
 obtain ⟨b_132,o_133,c_134,cs_135,hv_136,hr_137,hc_138,h_1310,h_1311⟩:=h1_0.ix h_131
 subst hr_137
 refine zp rfl q (fun w s=>r_indexAddr_R underlying43 sizeOf3 hv_136 h_1310 h_1311 q rfl rfl) fun a q=>zp rfl q (fun w s=>r_load isAgg3 q rfl ((s.ra hRA nil_not).cell (hc_138 0 _ rfl))) fun a q=>?_
 obtain ⟨y_139,h_140,H⟩:=bs H
 obtain ⟨b_141,o_142,c_143,cs_144,hv_145,hr_146,hc_147,h_1400,h_1401⟩:=h0_3.ix h_140
 obtain ⟨v_148,rfl,hs_149⟩:=hr_146
 refine zp rfl q (fun w s=>r_indexAddr_R underlying62 sizeOf22 hv_145 h_1400 h_1401 q rfl rfl) fun a q=>zp rfl q (fun w s=>r_load isAgg22 q rfl ((s.ra hRA nil_not).cell (hc_147 0 _ rfl))) fun a q=>?_
 refine spw (k:=11) rfl rfl s ?_
 cases H
 rw [ifb_f hb_109] at H
 refine wp_skip<|zq ?_
 refine parT_region (C:=fun w=>St [] w0 w R [.cells b_1 [I6 a1.Kind,.string a1.S,I6 a1.N,I6 a1.From,I6 a1.To,I6 a1.V.Kind,I6 a1.V.N,.string a1.V.S,I6 a1.V.H.a0,I6 a1.V.H.a1,I6 a1.V.H.a2,I6 a1.V.H.a3,I6 a1.V.H.a4,I6 a1.V.H.a5,I6 a1.V.H.a6,I6 a1.V.H.a7,v1_0,v1_1,v1_2] 58]) 13 [(0,true),(1,true),(2,true),(3,true),(4,true),(5,true),(6,true),(7,true),(8,true),(9,true),(10,true),(11,true),(12,false)] mixed (by kernel_rfl) s (fun w s=>s) fun w s=>?_
 refine zp rfl q (fun w s=>r_move q rfl) fun a q=>zp rfl q (fun w s=>r_move q rfl) fun a q=>zp rfl q (fun w s=>r_move q rfl) fun a q=>zp rfl q (fun w s=>r_nilCheck q rfl) fun a q=>zp rfl q (fun w s=>r_fieldAddr underlying80 rfl sizeOf62 q rfl) fun a q=>zp rfl q (fun w s=>r_load isAgg62 q rfl ((s.ra hRA nil_not).cell (hc0 3 _ rfl))) fun a q=>zp rfl q (fun w s=>r_fieldAddr underlying58 rfl sizeOf43 q rfl) fun a q=>zp rfl q (fun w s=>r_load isAgg43 q rfl (s.cell z0 rfl)) fun a q=>?_
 obtain ⟨y_172,h_173,H⟩:=bs H
 obtain ⟨b_174,o_175,c_176,cs_177,hv_178,hr_179,hc_180,h_1730,h_1731⟩:=h1_0.ix h_173
 subst hr_179
 refine zp rfl q (fun w s=>r_indexAddr_R underlying43 sizeOf3 hv_178 h_1730 h_1731 q rfl rfl) fun a q=>zp rfl q (fun w s=>r_load isAgg3 q rfl ((s.ra hRA nil_not).cell (hc_180 0 _ rfl))) fun a q=>?_
 obtain ⟨y_181,h_182,H⟩:=bs H
 obtain ⟨b_183,o_184,c_185,cs_186,hv_187,hr_188,hc_189,h_1820,h_1821⟩:=h0_3.ix h_182
 obtain ⟨v_190,rfl,hs_191⟩:=hr_188
 refine zp rfl q (fun w s=>r_indexAddr_R underlying62 sizeOf22 hv_187 h_1820 h_1821 q rfl rfl) fun a q=>zp rfl q (fun w s=>r_load isAgg22 q rfl ((s.ra hRA nil_not).cell (hc_189 0 _ rfl))) fun a q=>?_
 refine spw (k:=12) rfl rfl s ?_
 obtain ⟨y_192,h_193,H⟩:=bs H
 refine sl_callV call63 s q (by decide) rfl rfl rfl (slices_Equal_api_Col_api_Col.calls y_31 y_181 (lentOf_sub [] _) (hs_41.mono s.rLe0) (hs_191.mono s.rLe0) h_193) fun a w s q=>?_
 refine parK_nil s ?_
 refine thenL_nil ?_
 refine za q rfl fun a q=>za q rfl fun a q=>?_
 refine wpList_nil (NoP_nil ?_)
 obtain rfl:=Option.some.inj H
 refine wp_ret ?_
 repeat first | refine zt ?_ | refine zb ?_ | refine zo ?_
 exact ret_2 results70 q (rv_tmp q rfl) (rv_tmp q rfl) ⟨_,rfl,_,_,rfl,(s.trunc 0),hRL,hs_41⟩
theorem check_checker_one.calls (a0 : check_checker) (a1 : Int) {w0 : World} {R : Hp} {RA : Hp} {b0 : Nat} {o0 : Nat} {v0_0 : Value} {v0_1 : Value} {v0_2 : Value} {v0_3 : Value} (hRA : RA.sub w0) (hR : R.sub w0) (hc0 : ∀ j u,([v0_0,v0_1,v0_2,v0_3] : List Value)[j]? = some u → RA.cell b0 (o0 + j) = some u) (h0_0 : SlR ty_api_Schema R v0_0 a0.schemas) (h0_1 : SlB ty_api_Node RA R v0_1 a0.n) (h0_2 : SlB (tySl ty_api_Col) RA R v0_2 a0.inputs) (h0_3 : SlB (tySl ty_api_Col) RA R v0_3 a0.cols) {r : (List api_Col) × Int} (H : check_checker_one a0 a1 = some r) : Calls prog 47 #[.pointer (some ⟨b0,o0,none⟩),I6 a1] w0 (Rets fun v w'=>∃ (R' : Hp) (u0 : Value) (cu0 : List Value),v = .tuple #[u0,I6 r.2] ∧ St [] w0 w' R' [.row 47 2 u0 r.1.length cu0] ∧ RLe [] w0 R R' ∧ Reps ty_api_Col R' cu0 r.1):=by
 unfold check_checker_one at H
 refine enter (args:=[.pointer (some ⟨b0,o0,none⟩),I6 a1]) func47 rfl ntmps47 rfl fun a q=>?_
 have s:=St.init hR
 have hRL:=RLe.refl (M:=[]) w0 R
 refine zq<|zr<|za q rfl fun a q=>za q rfl fun a q=>zn<|zq<|zr<|zm q rfl fun a q=>zl q (r_nilCheck q rfl) fun a q=>zl q (r_fieldAddr underlying80 rfl sizeOf59 q rfl) fun a q=>zl q (r_load isAgg59 q rfl ((s.ra hRA nil_not).cell (hc0 1 _ rfl))) fun a q=>zm q rfl fun a q=>?_
 obtain ⟨y_1,h_2,H⟩:=bs H
 obtain ⟨b_3,o_4,c_5,cs_6,hv_7,hr_8,hc_9,h_20,h_21⟩:=h0_1.ix h_2
 obtain ⟨v_10,v_12,v_14,rfl,hs_11,hs_13,hs_15⟩:=hr_8
 refine zl q (r_indexAddr_R underlying59 sizeOf58 hv_7 h_20 h_21 q rfl rfl) fun a q=>zl q (r_loadA (cs:=[I6 y_1.Kind,.string y_1.S,I6 y_1.N,I6 y_1.From,I6 y_1.To,I6 y_1.V.Kind,I6 y_1.V.N,.string y_1.V.S,I6 y_1.V.H.a0,I6 y_1.V.H.a1,I6 y_1.V.H.a2,I6 y_1.V.H.a3,I6 y_1.V.H.a4,I6 y_1.V.H.a5,I6 y_1.V.H.a6,I6 y_1.V.H.a7,v_10,v_12,v_14]) isAgg58 sizeOf58 rfl q rfl (fun j v hv=>(s.ra hRA nil_not).cell (hc_9 j v hv))) fun a q=>?_
 refine sl_alloc zeroValue58 s q (by decide) rfl rfl fun a w b_16 s q=>?_
 refine sl_storeA (vs:=[I6 y_1.Kind,.string y_1.S,I6 y_1.N,I6 y_1.From,I6 y_1.To,I6 y_1.V.Kind,I6 y_1.V.N,.string y_1.V.S,I6 y_1.V.H.a0,I6 y_1.V.H.a1,I6 y_1.V.H.a2,I6 y_1.V.H.a3,I6 y_1.V.H.a4,I6 y_1.V.H.a5,I6 y_1.V.H.a6,I6 y_1.V.H.a7,v_10,v_12,v_14]) (c':=[I6 y_1.Kind,.string y_1.S,I6 y_1.N,I6 y_1.From,I6 y_1.To,I6 y_1.V.Kind,I6 y_1.V.N,.string y_1.V.S,I6 y_1.V.H.a0,I6 y_1.V.H.a1,I6 y_1.V.H.a2,I6 y_1.V.H.a3,I6 y_1.V.H.a4,I6 y_1.V.H.a5,I6 y_1.V.H.a6,I6 y_1.V.H.a7,v_10,v_12,v_14]) sizeOf58 s q rfl rfl rfl rfl (zc (zc (zc (zc (zc (zc (zc (zc (zc (zc (zc (zc (zc (zc (zc (zc (all_cons hs_11.one (all_cons hs_13.one (all_cons hs_15.one zz))))))))))))))))))) (Nat.le_of_ble_eq_true rfl) rfl fun a w s q=>?_
 refine zn<|zq ?_
 refine wp_block ?_
 refine zq<|zr<|zm q rfl fun a q=>zm q rfl fun a q=>?_
 obtain ⟨y_17,h_18,H⟩:=bs H
 refine sl_callV call67 s q (by decide) rfl rfl rfl (check_checker_shaped.calls a0 a1 (lentOf_sub [] _) (fun j u hu=>Hp.cell_le (s.raLe0 hRA nil_not) (hc0 j u hu)) (h0_0.mono s.rLe0) (SlB.toR h0_1 (s.raLe0 hRA nil_not) (Hp.le.trans (Hp.le.refl _) s.rLe0)) (SlB.toR h0_2 (s.raLe0 hRA nil_not) (Hp.le.trans (Hp.le.refl _) s.rLe0)) (SlB.toR h0_3 (s.raLe0 hRA nil_not) (Hp.le.trans (Hp.le.refl _) s.rLe0)) h_18) fun a w s q=>?_
 refine zl q (r_un q rfl (u_not _)) fun a q=>za q rfl fun a q=>zn ?_
 refine wp_cond_split (q.ev rfl) (fun (hb_19 : (!y_17) = true)=>?_) fun hb_19=>?_
 rw [ifb_t hb_19] at H
 refine zq<|zr<|za q rfl fun a q=>za q rfl fun a q=>zn ?_
 have s:=s.row_nil 47 2
 have hq_21 : Reps ty_api_Col R [] ([] : List api_Col):=Reps.nil _ _
 obtain rfl:=Option.some.inj H
 refine wp_ret ?_
 repeat first | refine zt ?_ | refine zb ?_ | refine zo ?_
 exact ret_2 results47 q (rv_tmp q rfl) (rv_tmp q rfl) ⟨_,rfl,_,_,_,rfl,(s.trunc 1),hRL,hq_21⟩
 rw [ifb_f hb_19] at H
 refine zq<|zr<|zl q (r_fieldAddr underlying58 rfl sizeOf3 q rfl) fun a q=>zl q (r_load isAgg3 q rfl (s.cell z0 rfl)) fun a q=>zl q (r_ibin q rfl rfl rfl) fun a q=>za q rfl fun a q=>zn ?_
 refine wp_cond_split (q.ev rfl) (fun (hb_22 : (decide (y_1.Kind ≥ 11)) = true)=>?_) fun hb_22=>?_
 rw [ifb_t hb_22] at H
 refine zq<|zr<|za q rfl fun a q=>za q rfl fun a q=>zn ?_
 have s:=s.row_nil 47 2
 have hq_24 : Reps ty_api_Col R [] ([] : List api_Col):=Reps.nil _ _
 obtain rfl:=Option.some.inj H
 refine wp_ret ?_
 repeat first | refine zt ?_ | refine zb ?_ | refine zo ?_
 exact ret_2 results47 q (rv_tmp q rfl) (rv_tmp q rfl) ⟨_,rfl,_,_,_,rfl,(s.trunc 1),hRL,hq_24⟩
 rw [ifb_f hb_22] at H
 refine zq<|zr<|zl q (r_fieldAddr underlying58 rfl sizeOf3 q rfl) fun a q=>zl q (r_load isAgg3 q rfl (s.cell z0 rfl)) fun a q=>zl q (r_ibin q rfl rfl rfl) fun a q=>za q rfl fun a q=>zn ?_
 refine wp_cond_split (q.ev rfl) (fun (hb_25 : (y_1.Kind == 1) = true)=>?_) fun hb_25=>?_
 rw [ifb_t hb_25] at H
 refine zq ?_
 refine treeT_region (C:=fun w=>St [] w0 w R [.cells b_16 [I6 y_1.Kind,.string y_1.S,I6 y_1.N,I6 y_1.From,I6 y_1.To,I6 y_1.V.Kind,I6 y_1.V.N,.string y_1.V.S,I6 y_1.V.H.a0,I6 y_1.V.H.a1,I6 y_1.V.H.a2,I6 y_1.V.H.a3,I6 y_1.V.H.a4,I6 y_1.V.H.a5,I6 y_1.V.H.a6,I6 y_1.V.H.a7,v_10,v_12,v_14] 58]) 12 (.br [(0,true),(1,true),(2,true),(3,true),(4,true),(5,true)] 6 (.list [(7,true),(8,true),(9,true),(10,false),(11,false)]) 10 (.list [(6,false),(7,true),(8,true),(9,true),(11,false)])) mixed (by kernel_rfl) s (fun w s=>s) fun w s=>?_
 refine tree_fork ?_
 refine zp rfl q (fun w s=>r_move q rfl) fun a q=>zp rfl q (fun w s=>r_nilCheck q rfl) fun a q=>zp rfl q (fun w s=>r_fieldAddr underlying80 rfl sizeOf77 q rfl) fun a q=>zp rfl q (fun w s=>r_load isAgg77 q rfl ((s.ra hRA nil_not).cell (hc0 0 _ rfl))) fun a q=>zp rfl q (fun w s=>r_fieldAddr underlying58 rfl sizeOf9 q rfl) fun a q=>zp rfl q (fun w s=>r_load isAgg9 q rfl (s.cell z0 rfl)) fun a q=>?_
 refine wpPar_nil (tree_br ?_ ?_)
 refine spwB (k:=6) rfl rfl s ?_
 cases H
 refine spwB (k:=10) rfl rfl s ?_
 refine sl_alloc zeroValue100 s q (by decide) rfl rfl fun a w b_29 s q=>?_
 refine parKK_nil (s.pk1.trunc 1) ?_
 refine tree_list ?_
 refine spw (k:=6) rfl rfl (s.pk1.trunc 1) ?_
 cases H
 rw [ifb_f hb_25] at H
 refine zq<|zr<|zl q (r_fieldAddr underlying58 rfl sizeOf3 q rfl) fun a q=>zl q (r_load isAgg3 q rfl (s.cell z0 rfl)) fun a q=>zl q (r_ibin q rfl rfl rfl) fun a q=>za q rfl fun a q=>zn ?_
 refine wp_cond_split (q.ev rfl) (fun (hb_30 : (y_1.Kind == 9) = true)=>?_) fun hb_30=>?_
 rw [ifb_t hb_30] at H
 refine zq<|zq ?_
 refine wp_mid (fun a w=>∃ (x_61 : Bool),check_checker_one.j0 a0 y_1 x_61 = some r ∧ Kn 94 a [(0,.pointer (some ⟨b0,o0,none⟩)),(6,.pointer (some ⟨b_16,0,none⟩)),(74,.bool x_61)] ∧ St [] w0 w R [.cells b_16 [I6 y_1.Kind,.string y_1.S,I6 y_1.N,I6 y_1.From,I6 y_1.To,I6 y_1.V.Kind,I6 y_1.V.N,.string y_1.V.S,I6 y_1.V.H.a0,I6 y_1.V.H.a1,I6 y_1.V.H.a2,I6 y_1.V.H.a3,I6 y_1.V.H.a4,I6 y_1.V.H.a5,I6 y_1.V.H.a6,I6 y_1.V.H.a7,v_10,v_12,v_14] 58]) ?_ ?_
 refine parT_region (C:=fun w=>St [] w0 w R [.cells b_16 [I6 y_1.Kind,.string y_1.S,I6 y_1.N,I6 y_1.From,I6 y_1.To,I6 y_1.V.Kind,I6 y_1.V.N,.string y_1.V.S,I6 y_1.V.H.a0,I6 y_1.V.H.a1,I6 y_1.V.H.a2,I6 y_1.V.H.a3,I6 y_1.V.H.a4,I6 y_1.V.H.a5,I6 y_1.V.H.a6,I6 y_1.V.H.a7,v_10,v_12,v_14] 58]) 20 [(0,true),(1,true),(2,true),(3,true),(4,true),(5,true),(6,true),(7,true),(8,true),(9,true),(10,true),(11,true),(12,true),(13,true),(14,true),(15,true),(16,true),(17,true),(18,true),(19,true)] mixed (by kernel_rfl) s (fun w s=>s) fun w s=>?_
 refine zp rfl q (fun w s=>r_fieldAddr underlying58 rfl sizeOf3 q rfl) fun a q=>zp rfl q (fun w s=>r_load isAgg3 q rfl (s.cell z0 rfl)) fun a q=>zp rfl q (fun w s=>r_ibin q rfl rfl rfl) fun a q=>zp rfl q (fun w s=>r_move q rfl) fun a q=>?_
 rcases or_b (decide (y_1.N < 0)) with hb_78 | hb_78
 rw [ifb_t hb_78] at H
 refine zps rfl q (wft hb_78) fun a q=>zps rfl q (wft hb_78) fun a q=>zps rfl q (wft hb_78) fun a q=>zps rfl q (wft hb_78) fun a q=>zps rfl q (wft hb_78) fun a q=>zps rfl q (wft hb_78) fun a q=>zps rfl q (wft hb_78) fun a q=>zps rfl q (wft hb_78) fun a q=>zp rfl q (fun w s=>r_pick_t hb_78 q rfl rfl) fun a q=>zp rfl q (fun w s=>r_move q rfl) fun a q=>zps rfl q rfl fun a q=>zps rfl q rfl fun a q=>zps rfl q rfl fun a q=>zps rfl q rfl fun a q=>zps rfl q rfl fun a q=>zps rfl q rfl fun a q=>?_
 refine thenL_nil ?_
 refine zs q fun a q=>zs q fun a q=>zs q fun a q=>zs q fun a q=>zs q fun a q=>zl q (r_pick q rfl rfl rfl) fun a q=>?_
 refine wpList_nil (NoP_nil ?_)
 exact ⟨true,H,q.sub (zc (zc (zc zz))),s⟩
 rw [ifb_f hb_78] at H
 refine zpw rfl q (wff hb_78) (fun w s=>r_fieldAddr underlying58 rfl sizeOf3 q rfl) fun a q=>zpw rfl q (wff hb_78) (fun w s=>r_load isAgg3 q rfl (s.cell z0 rfl)) fun a q=>zpw rfl q (wff hb_78) (fun w s=>r_move q rfl) fun a q=>zpw rfl q (wff hb_78) (fun w s=>r_nilCheck q rfl) fun a q=>zpw rfl q (wff hb_78) (fun w s=>r_fieldAddr underlying80 rfl sizeOf62 q rfl) fun a q=>zpw rfl q (wff hb_78) (fun w s=>r_load isAgg62 q rfl ((s.ra hRA nil_not).cell (hc0 2 _ rfl))) fun a q=>zpw rfl q (wff hb_78) (fun w s=>r_len_B underlying62 h0_2 q rfl) fun a q=>zpw rfl q (wff hb_78) (fun w s=>r_ibin q rfl rfl rfl) fun a q=>zp rfl q (fun w s=>r_pick_f hb_78 q rfl rfl) fun a q=>zp rfl q (fun w s=>r_move q rfl) fun a q=>?_
 rcases or_b (decide (y_1.N ≥ (a0.inputs.length : Int))) with hb_79 | hb_79
 rw [ifb_t hb_79] at H
 refine zps rfl q (wft hb_79) fun a q=>zps rfl q (wft hb_79) fun a q=>zps rfl q (wft hb_79) fun a q=>zps rfl q (wft hb_79) fun a q=>zps rfl q (wft hb_79) fun a q=>zps rfl q (wft hb_79) fun a q=>?_
 refine thenL_nil ?_
 refine zsw q (wft hb_79) fun a q=>zsw q (wft hb_79) fun a q=>zsw q (wft hb_79) fun a q=>zsw q (wft hb_79) fun a q=>zsw q (wft hb_79) fun a q=>zl q (r_pick_t hb_79 q rfl rfl) fun a q=>?_
 refine wpList_nil (NoP_nil ?_)
 exact ⟨true,H,q.sub (zc (zc (zc zz))),s⟩
 rw [ifb_f hb_79] at H
 refine zpw rfl q (wff hb_79) (fun w s=>r_move q rfl) fun a q=>zpw rfl q (wff hb_79) (fun w s=>r_nilCheck q rfl) fun a q=>zpw rfl q (wff hb_79) (fun w s=>r_fieldAddr underlying80 rfl sizeOf62 q rfl) fun a q=>zpw rfl q (wff hb_79) (fun w s=>r_load isAgg62 q rfl ((s.ra hRA nil_not).cell (hc0 2 _ rfl))) fun a q=>zpw rfl q (wff hb_79) (fun w s=>r_fieldAddr underlying58 rfl sizeOf3 q rfl) fun a q=>zpw rfl q (wff hb_79) (fun w s=>r_load isAgg3 q rfl (s.cell z0 rfl)) fun a q=>?_
 refine thenL_nil ?_
 obtain ⟨y_80,h_81,H⟩:=bs H
 obtain ⟨b_82,o_83,c_84,cs_85,hv_86,hr_87,hc_88,h_810,h_811⟩:=h0_2.ix h_81
 obtain ⟨v_89,rfl,hs_90⟩:=hr_87
 refine zw q (wff hb_79) (r_indexAddr_R underlying62 sizeOf22 hv_86 h_810 h_811 q rfl rfl) fun a q=>zw q (wff hb_79) (r_load isAgg22 q rfl ((s.ra hRA nil_not).cell (hc_88 0 _ rfl))) fun a q=>zw q (wff hb_79) (r_buildC (ps:=[(0,v_89)]) (c:=[v_89,.slice none 0 0]) underlying35 zeroValue35 places35 q rfl (pc_cons (cells1 hs_90.one) pc_nil) rfl rfl) fun a q=>?_
 obtain ⟨y_91,h_92,H⟩:=bs H
 refine sl_callV call28 s q (by decide) (wff hb_79) rfl rfl (table_Check.calls (⟨y_80,[]⟩ : api_Table) (lentOf_sub [] _) (hs_90.mono s.rLe0) (SlR.nil (tySl ty_api_Value) _) h_92) fun a w s q=>?_
 refine zw q (wff hb_79) (r_ibin q rfl rfl rfl) fun a q=>zl q (r_pick_f hb_79 q rfl rfl) fun a q=>?_
 refine wpList_nil (NoP_nil ?_)
 exact ⟨(y_91 != 0),H,q.sub (zc (zc (zc zz))),s⟩
 rintro a w ⟨x_61,H,q,s⟩
 unfold check_checker_one.j0 at H
 refine wp_cond_split (q.ev rfl) (fun (hb_93 : x_61 = true)=>?_) fun hb_93=>?_
 rw [ifb_t hb_93] at H
 refine zq<|zr<|za q rfl fun a q=>za q rfl fun a q=>zn ?_
 have s:=s.row_nil 47 2
 have hq_95 : Reps ty_api_Col R [] ([] : List api_Col):=Reps.nil _ _
 obtain rfl:=Option.some.inj H
 refine wp_ret ?_
 repeat first | refine zt ?_ | refine zb ?_ | refine zo ?_
 exact ret_2 results47 q (rv_tmp q rfl) (rv_tmp q rfl) ⟨_,rfl,_,_,_,rfl,(s.trunc 1),hRL,hq_95⟩
 rw [ifb_f hb_93] at H
 refine wp_skip<|zq ?_
 refine parT_region (C:=fun w=>St [] w0 w R [.cells b_16 [I6 y_1.Kind,.string y_1.S,I6 y_1.N,I6 y_1.From,I6 y_1.To,I6 y_1.V.Kind,I6 y_1.V.N,.string y_1.V.S,I6 y_1.V.H.a0,I6 y_1.V.H.a1,I6 y_1.V.H.a2,I6 y_1.V.H.a3,I6 y_1.V.H.a4,I6 y_1.V.H.a5,I6 y_1.V.H.a6,I6 y_1.V.H.a7,v_10,v_12,v_14] 58]) 6 [(0,true),(1,true),(2,true),(3,true),(4,true),(5,true)] mixed (by kernel_rfl) s (fun w s=>s) fun w s=>?_
 refine zp rfl q (fun w s=>r_move q rfl) fun a q=>zp rfl q (fun w s=>r_nilCheck q rfl) fun a q=>zp rfl q (fun w s=>r_fieldAddr underlying80 rfl sizeOf62 q rfl) fun a q=>zp rfl q (fun w s=>r_load isAgg62 q rfl ((s.ra hRA nil_not).cell (hc0 2 _ rfl))) fun a q=>zp rfl q (fun w s=>r_fieldAddr underlying58 rfl sizeOf3 q rfl) fun a q=>zp rfl q (fun w s=>r_load isAgg3 q rfl (s.cell z0 rfl)) fun a q=>?_
 refine thenL_nil ?_
 obtain ⟨y_115,h_116,H⟩:=bs H
 obtain ⟨b_117,o_118,c_119,cs_120,hv_121,hr_122,hc_123,h_1160,h_1161⟩:=h0_2.ix h_116
 obtain ⟨v_124,rfl,hs_125⟩:=hr_122
 refine zl q (r_indexAddr_R underlying62 sizeOf22 hv_121 h_1160 h_1161 q rfl rfl) fun a q=>zl q (r_load isAgg22 q rfl ((s.ra hRA nil_not).cell (hc_123 0 _ rfl))) fun a q=>?_
 obtain ⟨y_126,h_127,H⟩:=bs H
 refine sl_call call26 q (by decide) rfl rfl rfl (slices_Clone_api_Col_api_Col.calls y_115 (lentOf_sub [] _) s.sub (hs_125.mono s.rLe0) h_127) fun a v_ w hv_ q=>?_
 obtain ⟨R_128,v_131,cs_132,hv_,hr_,hl_129,hq_133⟩:=hv_
 have hv_:=hv_.symm
 subst hv_
 obtain ⟨s,hl_129⟩:=s.sp0.back hr_ hl_129
 have s:=s.un1
 have hRL:=hRL.trans hl_129
 refine za q rfl fun a q=>za q rfl fun a q=>?_
 refine wpList_nil (NoP_nil ?_)
 obtain rfl:=Option.some.inj H
 refine wp_ret ?_
 repeat first | refine zt ?_ | refine zb ?_ | refine zo ?_
 exact ret_2 results47 q (rv_tmp q rfl) (rv_tmp q rfl) ⟨_,rfl,_,_,_,rfl,(s.trunc 1),hRL,hq_133⟩
 rw [ifb_f hb_30] at H
 refine wp_skip<|zq<|zr<|zm q rfl fun a q=>zl q (r_loadA (cs:=[I6 y_1.Kind,.string y_1.S,I6 y_1.N,I6 y_1.From,I6 y_1.To,I6 y_1.V.Kind,I6 y_1.V.N,.string y_1.V.S,I6 y_1.V.H.a0,I6 y_1.V.H.a1,I6 y_1.V.H.a2,I6 y_1.V.H.a3,I6 y_1.V.H.a4,I6 y_1.V.H.a5,I6 y_1.V.H.a6,I6 y_1.V.H.a7,v_10,v_12,v_14]) isAgg58 sizeOf58 rfl q rfl (s.cells_of (m:=19) z0 rfl)) fun a q=>?_
 obtain ⟨y_134,h_135,H⟩:=bs H
 refine sl_call call70 q (by decide) rfl rfl rfl (check_checker_rows.calls a0 y_1 (lentOf_sub [] _) s.sub (fun j u hu=>Hp.cell_le (s.raLe0 hRA nil_not) (hc0 j u hu)) h0_0 ((h0_1.monoR (Hp.le.refl _)).monoA (s.raLe0 hRA nil_not)) ((h0_2.monoR (Hp.le.refl _)).monoA (s.raLe0 hRA nil_not)) ((h0_3.monoR (Hp.le.refl _)).monoA (s.raLe0 hRA nil_not)) (hs_11.mono s.rLe0) (hs_13.mono s.rLe0) (hs_15.mono s.rLe0) h_135) fun a v_ w hv_ q=>?_
 obtain ⟨R_136,v_138,hv_,hr_,hl_137,hs_139⟩:=hv_
 have hv_:=hv_.symm
 subst hv_
 obtain ⟨s,hl_137⟩:=s.sp0.back hr_ hl_137
 have s:=s.un0
 have hRL:=hRL.trans hl_137
 refine zm q rfl fun a q=>zl q (r_extract q rfl rfl) fun a q=>zl q (r_extract q rfl rfl) fun a q=>za q rfl fun a q=>za q rfl fun a q=>zn<|zq<|zq<|zr<|zm q rfl fun a q=>zl q (r_un q rfl (u_not _)) fun a q=>zn ?_
 refine wp_cond_split (q.ev rfl) (fun (hb_140 : (!y_134.2) = true)=>?_) fun hb_140=>?_
 rw [ifb_t hb_140] at H
 refine zq<|zr<|za q rfl fun a q=>za q rfl fun a q=>zn ?_
 have s:=s.row_nil 47 2
 have hq_142 : Reps ty_api_Col R_136 [] ([] : List api_Col):=Reps.nil _ _
 obtain rfl:=Option.some.inj H
 refine wp_ret ?_
 repeat first | refine zt ?_ | refine zb ?_ | refine zo ?_
 exact ret_2 results47 q (rv_tmp q rfl) (rv_tmp q rfl) ⟨_,rfl,_,_,_,rfl,(s.trunc 1),hRL,hq_142⟩
 rw [ifb_f hb_140] at H
 refine wp_skip<|zq<|zr<|zm q rfl fun a q=>?_
 obtain ⟨y_143,h_144,H⟩:=bs H
 refine sl_call call26 q (by decide) rfl rfl rfl (slices_Clone_api_Col_api_Col.calls y_134.1 (lentOf_sub [] _) s.sub (hs_139.mono s.rLe0) h_144) fun a v_ w hv_ q=>?_
 obtain ⟨R_145,v_148,cs_149,hv_,hr_,hl_146,hq_150⟩:=hv_
 have hv_:=hv_.symm
 subst hv_
 obtain ⟨s,hl_146⟩:=s.sp0.back hr_ hl_146
 have s:=s.un1
 have hRL:=hRL.trans hl_146
 refine za q rfl fun a q=>za q rfl fun a q=>zn ?_
 obtain rfl:=Option.some.inj H
 refine wp_ret ?_
 repeat first | refine zt ?_ | refine zb ?_ | refine zo ?_
 exact ret_2 results47 q (rv_tmp q rfl) (rv_tmp q rfl) ⟨_,rfl,_,_,_,rfl,(s.trunc 1),hRL,hq_150⟩
theorem check_Types.calls (a0 : List api_Schema) (a1 : api_Query) (a2 : List (List api_Col)) {w0 : World} {R : Hp} {v0_0 : Value} {v1_0 : Value} {v2_0 : Value} (hR : R.sub w0) (h0_0 : SlR ty_api_Schema R v0_0 a0) (h1_0 : SlR ty_api_Node R v1_0 a1.N) (h2_0 : SlR (tySl ty_api_Col) R v2_0 a2) {r : (List (List api_Col)) × Int × Int} (H : check_Types a0 a1 a2 = some r) : Calls prog 25 #[v0_0,.agg #[v1_0],v2_0] w0 (Rets fun v w'=>∃ (R' : Hp) (u0 : Value) (cu0 : List Value),v = .tuple #[u0,I6 r.2.1,I6 r.2.2] ∧ St [] w0 w' R' [.row 22 1 u0 r.1.length cu0] ∧ RLe [] w0 R R' ∧ Reps (tySl ty_api_Col) R' cu0 r.1):=by
 unfold check_Types at H
 refine enter (args:=[v0_0,.agg #[v1_0],v2_0]) func25 rfl ntmps25 rfl fun a q=>?_
 have s:=St.init hR
 have hRL:=RLe.refl (M:=[]) w0 R
 refine zq<|zr ?_
 refine sl_box s q (by decide) rfl rfl (c:=[v1_0]) rfl fun a w b_1 s q=>?_
 refine za q rfl fun a q=>za q rfl fun a q=>za q rfl fun a q=>zn<|zq<|zr<|zm q rfl fun a q=>zl q (r_fieldAddr underlying61 rfl sizeOf59 q rfl) fun a q=>zl q (r_load isAgg59 q rfl (s.cell z0 rfl)) fun a q=>zm q rfl fun a q=>zl q (r_buildC (ps:=[(0,v0_0),(1,v1_0),(2,v2_0)]) (c:=[v0_0,v1_0,v2_0,.slice none 0 0]) underlying80 zeroValue80 places80 q rfl (pc_cons (cells1 h0_0.one) (pc_cons (cells1 h1_0.one) (pc_cons (cells1 h2_0.one) pc_nil))) rfl rfl) fun a q=>?_
 refine sl_box s q (by decide) rfl rfl (c:=[v0_0,v1_0,v2_0,.slice none 0 0]) rfl fun a w b_2 s q=>?_
 refine za q rfl fun a q=>zn<|zq<|zq<|zr<|zl q (r_fieldAddr underlying61 rfl sizeOf59 q rfl) fun a q=>zl q (r_load isAgg59 q rfl (s.cell z1 rfl)) fun a q=>zl q (r_len_R underlying59 h1_0 q rfl) fun a q=>zm q rfl fun a q=>zn ?_
 refine wp_block ?_
 refine wp_loop_k (fun k_l0 a w=>∃ (x_32 : List (List api_Col)) (x_36 : Int) (R_37 : Hp) (v_33 : Value) (cs_34 : List Value),check_Types.l0 a0 a1 a2 k_l0 x_32 x_36 = some r ∧ RLe [] w0 R R_37 ∧ Reps (tySl ty_api_Col) R_37 cs_34 x_32 ∧ Kn 50 a [(9,.pointer (some ⟨b_2,0,none⟩)),(21,I6 (a1.N.length : Int)),(22,I6 x_36)] ∧ St [] w0 w R_37 [.row 22 1 v_33 x_32.length cs_34,.cells b_2 [v0_0,v1_0,v2_0,v_33] 80]) (((a1.N.length : Int) - 0).toNat + 1) ?_ ?_
 have s:=s.row_nil 22 1
 have hq_63 : Reps (tySl ty_api_Col) R [] ([] : List (List api_Col)):=Reps.nil _ _
 have s:=s.pk1
 have s:=s.pk1
 exact ⟨[],0,_,_,_,H,(RLe.refl _ _),hq_63,q.sub (zc (zc (zc zz))),s.trunc 2⟩
 rintro k_l0 a w ⟨x_32,x_36,R_37,v_33,cs_34,H,hl_38,hq_35,q,s⟩
 rcases k_l0 with _ | k_l0
 cases H
 rw [check_Types.l0.eq_2] at H
 have hRL:=hRL.trans hl_38
 refine zq<|zr<|zl q (r_ibin q rfl rfl rfl) fun a q=>zn<|zq ?_
 refine wp_cond_split (q.ev rfl) (fun (hb_64 : (decide (x_36 < (a1.N.length : Int))) = true)=>?_) fun hb_64=>?_
 rw [ifb_t hb_64] at H
 refine wp_skip<|zq ?_
 refine wp_block ?_
 refine zq<|zr<|zm q rfl fun a q=>za q rfl fun a q=>zn<|zq<|zr<|zm q rfl fun a q=>zm q rfl fun a q=>?_
 obtain ⟨y_65,h_66,H⟩:=bs H
 refine sl_call call47 q (by decide) rfl rfl rfl (check_checker_one.calls (⟨a0,a1.N,a2,x_32⟩ : check_checker) x_36 (lentOf_sub [] _) s.sub (s.lend_box0 z1) (h0_0.mono hl_38.le) (SlR.toB (h1_0.mono hl_38.le) s.rLe0) (SlR.toB (h2_0.mono hl_38.le) s.rLe0) (s.lend_rowB0 z0 hq_35 rfl rfl) h_66) fun a v_ w hv_ q=>?_
 obtain ⟨R_67,v_70,cs_71,hv_,hr_,hl_68,hq_72⟩:=hv_
 have hv_:=hv_.symm
 subst hv_
 obtain ⟨s,hl_68⟩:=s.sp0.back hr_ hl_68
 have s:=s.un1
 have hRL:=hRL.trans hl_68
 refine zm q rfl fun a q=>zl q (r_extract q rfl rfl) fun a q=>zl q (r_extract q rfl rfl) fun a q=>za q rfl fun a q=>za q rfl fun a q=>zn<|zq<|zq<|zr<|zm q rfl fun a q=>zl q (r_ibin q rfl rfl rfl) fun a q=>zn ?_
 refine wp_cond_split (q.ev rfl) (fun (hb_73 : (y_65.2 != 0) = true)=>?_) fun hb_73=>?_
 rw [ifb_t hb_73] at H
 refine zq<|zr<|zm q rfl fun a q=>zm q rfl fun a q=>za q rfl fun a q=>za q rfl fun a q=>za q rfl fun a q=>zn ?_
 have s:=s.row_nil 22 1
 have hq_75 : Reps (tySl ty_api_Col) R_67 [] ([] : List (List api_Col)):=Reps.nil _ _
 obtain rfl:=Option.some.inj H
 refine wp_ret ?_
 repeat first | refine zt ?_ | refine zb ?_ | refine zo ?_
 exact ret_3 results25 q (rv_tmp q rfl) (rv_tmp q rfl) (rv_tmp q rfl) ⟨_,rfl,_,_,_,rfl,(s.trunc 1),hRL,hq_75⟩
 rw [ifb_f hb_73] at H
 refine wp_skip<|zr<|zm q rfl fun a q=>zm q rfl fun a q=>zl q (r_nilCheck q rfl) fun a q=>zl q (r_fieldAddr underlying80 rfl sizeOf62 q rfl) fun a q=>zl q (r_load isAgg62 q rfl (s.cell z2 rfl)) fun a q=>zm q rfl fun a q=>?_
 have ho_76:=s.row_one z0
 refine sl_buildSliceF (zc:=[.slice none 0 0]) (ps:=[(0,v_70)]) (c:=[v_70]) [[v_70]] underlying62 sizeOf22 zeroValue22 rfl (pc_cons (cells1 ho_76) pc_nil) rfl rfl (Nat.le_of_ble_eq_true rfl) rfl (zc zz) rfl s q (by decide) rfl fun a w b_77 s q=>?_
 have s:=s.pk2
 have s:=s.pk2
 obtain ⟨R_78,s,hl_80,hs_79⟩:=s.fz_row hq_72 rfl rfl
 have hRL:=hRL.trans hl_80
 obtain ⟨y_81,h_82,H⟩:=bs H
 refine sl_append_L (ty:=(tySl ty_api_Col)) (ys:=[y_65.1]) elT62 (by decide) rfl (hq_35.mono (hl_68.le.trans hl_80.le)) rfl (Reps.cons (show Ty.rep (tySl ty_api_Col) _ [v_70] y_65.1 from ⟨_,rfl,hs_79⟩) (Reps.nil _ _)) rfl h_82 s q (by decide) rfl rfl rfl fun a w v_83 cs_84 hq_85 s q=>?_
 refine zl q (r_nilCheck q rfl) fun a q=>zl q (r_fieldAddr underlying80 rfl sizeOf62 q rfl) fun a q=>?_
 have s:=s.pk1
 refine sl_store1 (c':=[v0_0,v1_0,v2_0,v_83]) sizeOf62 s q rfl rfl rfl (s.row_one z1) (Nat.le_of_ble_eq_true rfl) rfl fun a w s q=>?_
 refine zn<|zr<|zl q (r_ibin q rfl rfl rfl) fun a q=>zm q rfl fun a q=>zn ?_
 have s:=s.pk1
 exact ⟨_,Nat.lt_succ_self _,y_81,(IntKind.i64.wrap (x_36 + 1)),_,_,_,H,(hl_38.trans (hl_68.trans hl_80)),hq_85,q.sub (zc (zc (zc zz))),s⟩
 rw [ifb_f hb_64] at H
 refine wp_exit ?_
 refine zq<|zr<|zm q rfl fun a q=>zl q (r_nilCheck q rfl) fun a q=>zl q (r_fieldAddr underlying80 rfl sizeOf62 q rfl) fun a q=>zl q (r_load isAgg62 q rfl (s.cell z1 rfl)) fun a q=>za q rfl fun a q=>za q rfl fun a q=>za q rfl fun a q=>zn ?_
 obtain rfl:=Option.some.inj H
 refine wp_ret ?_
 repeat first | refine zt ?_ | refine zb ?_ | refine zo ?_
 exact ret_3 results25 q (rv_tmp q rfl) (rv_tmp q rfl) (rv_tmp q rfl) ⟨_,rfl,_,_,_,rfl,(s.trunc 1),hRL,hq_35⟩
set_option maxHeartbeats 4000000 in
set_option maxRecDepth 100000 in
theorem strconv_Itoa.calls (a0 : Int) {w0 : World} {RA : Hp} (hRA : RA.sub w0) (hG : GF RA) {r : ByteArray} (H : strconv_Itoa a0 = some r) : CallsV Tryz.prog 27 #[.int .i64 a0] w0 (.string r) := by
  unfold strconv_Itoa at H
  split at H
  · rename_i hs
    obtain rfl := Option.some.inj H
    exact (Any.strconv_Itoa itoL27 a0 hs.1 hs.2 w0 (GF_pow10 hG hRA)).mono fun e w' ⟨he, k, os, hw⟩ => ⟨he, by subst hw; exact Bel.of_grow _ _ _⟩
  · cases H
theorem group_Cols.calls (a0 : List api_Col) (a1 : List ByteArray) (a2 : List api_Agg) {w0 : World} {R : Hp} {RA : Hp} {v0_0 : Value} {v1_0 : Value} {v2_0 : Value} (hRA : RA.sub w0) (hR : R.sub w0) (h0_0 : SlR ty_api_Col R v0_0 a0) (h1_0 : SlR tyStr R v1_0 a1) (h2_0 : SlR ty_api_Agg R v2_0 a2) (hG : GF RA) {r : (List api_Col) × (List api_Col) × Bool} (H : group_Cols a0 a1 a2 = some r) : Calls prog 11 #[v0_0,v1_0,v2_0] w0 (Rets fun v w'=>∃ (R' : Hp) (u0 : Value) (cu0 : List Value) (u1 : Value),v = .tuple #[u0,u1,.bool r.2.2] ∧ St [] w0 w' R' [.row 47 2 u0 r.1.length cu0] ∧ RLe [] w0 R R' ∧ Reps ty_api_Col R' cu0 r.1 ∧ SlR ty_api_Col R' u1 r.2.1):=by
 unfold group_Cols at H
 refine enter (args:=[v0_0,v1_0,v2_0]) func11 rfl ntmps11 rfl fun a q=>?_
 have s:=St.init hR
 have hRL:=RLe.refl (M:=[]) w0 R
 refine zq<|zr<|za q rfl fun a q=>za q rfl fun a q=>za q rfl fun a q=>zn<|zq<|zr<|zl q (r_buildC (ps:=[(0,I6 9)]) (c:=[I6 9,.string (⟨#[]⟩ : ByteArray),I6 0,I6 0,I6 0,I6 0,I6 0,.string (⟨#[]⟩ : ByteArray),I6 0,I6 0,I6 0,I6 0,I6 0,I6 0,I6 0,I6 0,.slice none 0 0,.slice none 0 0,.slice none 0 0]) underlying58 zeroValue58 places58 q rfl (pc_cons rfl pc_nil) rfl rfl) fun a q=>?_
 refine sl_buildSliceF (zc:=[I6 0]) (ps:=[(0,I6 0)]) (c:=[I6 0]) [[I6 0]] underlying43 sizeOf3 zeroValue3 rfl (pc_cons rfl pc_nil) rfl rfl (Nat.le_of_ble_eq_true rfl) rfl (zc zz) rfl s q (by decide) rfl fun a w b_1 s q=>?_
 refine zm q rfl fun a q=>zm q rfl fun a q=>zl q (r_buildC (ps:=[(0,I6 5),(6,.slice (some ⟨b_1,0,none⟩) 1 1),(7,v1_0),(8,v2_0)]) (c:=[I6 5,.string (⟨#[]⟩ : ByteArray),I6 0,I6 0,I6 0,I6 0,I6 0,.string (⟨#[]⟩ : ByteArray),I6 0,I6 0,I6 0,I6 0,I6 0,I6 0,I6 0,I6 0,.slice (some ⟨b_1,0,none⟩) 1 1,v1_0,v2_0]) underlying58 zeroValue58 places58 q rfl (pc_cons rfl (pc_cons rfl (pc_cons (cells1 h1_0.one) (pc_cons (cells1 h2_0.one) pc_nil)))) rfl rfl) fun a q=>?_
 refine sl_buildSliceF (zc:=[I6 0,.string (⟨#[]⟩ : ByteArray),I6 0,I6 0,I6 0,I6 0,I6 0,.string (⟨#[]⟩ : ByteArray),I6 0,I6 0,I6 0,I6 0,I6 0,I6 0,I6 0,I6 0,.slice none 0 0,.slice none 0 0,.slice none 0 0]) (ps:=[(0,.agg #[I6 9,.string (⟨#[]⟩ : ByteArray),I6 0,I6 0,I6 0,I6 0,I6 0,.string (⟨#[]⟩ : ByteArray),I6 0,I6 0,I6 0,I6 0,I6 0,I6 0,I6 0,I6 0,.slice none 0 0,.slice none 0 0,.slice none 0 0]),(1,.agg #[I6 5,.string (⟨#[]⟩ : ByteArray),I6 0,I6 0,I6 0,I6 0,I6 0,.string (⟨#[]⟩ : ByteArray),I6 0,I6 0,I6 0,I6 0,I6 0,I6 0,I6 0,I6 0,.slice (some ⟨b_1,0,none⟩) 1 1,v1_0,v2_0])]) (c:=[I6 9,.string (⟨#[]⟩ : ByteArray),I6 0,I6 0,I6 0,I6 0,I6 0,.string (⟨#[]⟩ : ByteArray),I6 0,I6 0,I6 0,I6 0,I6 0,I6 0,I6 0,I6 0,.slice none 0 0,.slice none 0 0,.slice none 0 0,I6 5,.string (⟨#[]⟩ : ByteArray),I6 0,I6 0,I6 0,I6 0,I6 0,.string (⟨#[]⟩ : ByteArray),I6 0,I6 0,I6 0,I6 0,I6 0,I6 0,I6 0,I6 0,.slice (some ⟨b_1,0,none⟩) 1 1,v1_0,v2_0]) [[I6 9,.string (⟨#[]⟩ : ByteArray),I6 0,I6 0,I6 0,I6 0,I6 0,.string (⟨#[]⟩ : ByteArray),I6 0,I6 0,I6 0,I6 0,I6 0,I6 0,I6 0,I6 0,.slice none 0 0,.slice none 0 0,.slice none 0 0],[I6 5,.string (⟨#[]⟩ : ByteArray),I6 0,I6 0,I6 0,I6 0,I6 0,.string (⟨#[]⟩ : ByteArray),I6 0,I6 0,I6 0,I6 0,I6 0,I6 0,I6 0,I6 0,.slice (some ⟨b_1,0,none⟩) 1 1,v1_0,v2_0]] underlying59 sizeOf58 zeroValue58 rfl (pc_cons rfl (pc_cons rfl pc_nil)) rfl rfl (Nat.le_of_ble_eq_true rfl) rfl (zc (zc zz)) rfl s q (by decide) rfl fun a w b_2 s q=>?_
 refine zl q (r_buildC (ps:=[(0,.slice (some ⟨b_2,0,none⟩) 2 2)]) (c:=[.slice (some ⟨b_2,0,none⟩) 2 2]) underlying61 zeroValue61 places61 q rfl (pc_cons rfl pc_nil) rfl rfl) fun a q=>?_
 refine sl_alloc zeroValue61 s q (by decide) rfl rfl fun a w b_3 s q=>?_
 refine sl_storeA (vs:=[.slice (some ⟨b_2,0,none⟩) 2 2]) (c':=[.slice (some ⟨b_2,0,none⟩) 2 2]) sizeOf61 s q rfl rfl rfl rfl (zc zz) (Nat.le_of_ble_eq_true rfl) rfl fun a w s q=>?_
 refine zn<|zq<|zr<|zl q (r_loadA (cs:=[.slice (some ⟨b_2,0,none⟩) 2 2]) isAgg61 sizeOf61 rfl q rfl (s.cells_of (m:=1) z0 rfl)) fun a q=>zm q rfl fun a q=>?_
 refine sl_buildSliceF (zc:=[.slice none 0 0]) (ps:=[(0,v0_0)]) (c:=[v0_0]) [[v0_0]] underlying62 sizeOf22 zeroValue22 rfl (pc_cons (cells1 h0_0.one) pc_nil) rfl rfl (Nat.le_of_ble_eq_true rfl) rfl (zc zz) rfl s q (by decide) rfl fun a w b_4 s q=>?_
 have s:=s.pk3
 obtain ⟨R_5,s,hl_7,hs_6⟩:=s.fz_lit (ty:=(tyInt .i64)) (xs:=[0]) (Reps.cons (show Ty.rep (tyInt .i64) _ [I6 0] 0 from rfl) (Reps.nil _ _)) rfl
 have hRL:=hRL.trans hl_7
 have s:=s.pk2
 obtain ⟨R_8,s,hl_10,hs_9⟩:=s.fz_lit (ty:=ty_api_Node) (xs:=[(⟨9,(⟨#[]⟩ : ByteArray),0,0,0,(⟨0,0,(⟨#[]⟩ : ByteArray),(⟨0,0,0,0,0,0,0,0⟩ : Arr8)⟩ : api_Value),[],[],[]⟩ : api_Node),(⟨5,(⟨#[]⟩ : ByteArray),0,0,0,(⟨0,0,(⟨#[]⟩ : ByteArray),(⟨0,0,0,0,0,0,0,0⟩ : Arr8)⟩ : api_Value),[0],a1,a2⟩ : api_Node)]) (Reps.cons (show Ty.rep ty_api_Node _ [I6 9,.string (⟨#[]⟩ : ByteArray),I6 0,I6 0,I6 0,I6 0,I6 0,.string (⟨#[]⟩ : ByteArray),I6 0,I6 0,I6 0,I6 0,I6 0,I6 0,I6 0,I6 0,.slice none 0 0,.slice none 0 0,.slice none 0 0] (⟨9,(⟨#[]⟩ : ByteArray),0,0,0,(⟨0,0,(⟨#[]⟩ : ByteArray),(⟨0,0,0,0,0,0,0,0⟩ : Arr8)⟩ : api_Value),[],[],[]⟩ : api_Node) from ⟨_,_,_,rfl,SlR.nil _ _,SlR.nil _ _,SlR.nil _ _⟩) (Reps.cons (show Ty.rep ty_api_Node _ [I6 5,.string (⟨#[]⟩ : ByteArray),I6 0,I6 0,I6 0,I6 0,I6 0,.string (⟨#[]⟩ : ByteArray),I6 0,I6 0,I6 0,I6 0,I6 0,I6 0,I6 0,I6 0,(.slice (some ⟨b_1,0,none⟩) 1 1),v1_0,v2_0] (⟨5,(⟨#[]⟩ : ByteArray),0,0,0,(⟨0,0,(⟨#[]⟩ : ByteArray),(⟨0,0,0,0,0,0,0,0⟩ : Arr8)⟩ : api_Value),[0],a1,a2⟩ : api_Node) from ⟨_,_,_,rfl,hs_6,(h1_0.mono hl_7.le),(h2_0.mono hl_7.le)⟩) (Reps.nil _ _))) rfl
 have hRL:=hRL.trans hl_10
 obtain ⟨R_11,s,hl_13,hs_12⟩:=s.fz_lit (ty:=(tySl ty_api_Col)) (xs:=[a0]) (Reps.cons (show Ty.rep (tySl ty_api_Col) _ [v0_0] a0 from ⟨_,rfl,(h0_0.mono (hl_7.le.trans hl_10.le))⟩) (Reps.nil _ _)) rfl
 have hRL:=hRL.trans hl_13
 obtain ⟨y_14,h_15,H⟩:=bs H
 refine sl_call call25 q (by decide) rfl rfl rfl (check_Types.calls ([] : List api_Schema) (⟨[(⟨9,(⟨#[]⟩ : ByteArray),0,0,0,(⟨0,0,(⟨#[]⟩ : ByteArray),(⟨0,0,0,0,0,0,0,0⟩ : Arr8)⟩ : api_Value),[],[],[]⟩ : api_Node),(⟨5,(⟨#[]⟩ : ByteArray),0,0,0,(⟨0,0,(⟨#[]⟩ : ByteArray),(⟨0,0,0,0,0,0,0,0⟩ : Arr8)⟩ : api_Value),[0],a1,a2⟩ : api_Node)]⟩ : api_Query) [a0] s.sub (SlR.nil ty_api_Schema _) (hs_9.mono hl_13.le) hs_12 h_15) fun a v_ w hv_ q=>?_
 obtain ⟨R_16,v_19,cs_20,hv_,hr_,hl_17,hq_21⟩:=hv_
 have hv_:=hv_.symm
 subst hv_
 obtain ⟨s,hl_17⟩:=s.sp0.back hr_ hl_17
 have s:=s.un1
 have hRL:=hRL.trans hl_17
 refine zm q rfl fun a q=>zl q (r_extract q rfl rfl) fun a q=>zl q (r_extract q rfl rfl) fun a q=>zl q (r_extract q rfl rfl) fun a q=>za q rfl fun a q=>za q rfl fun a q=>za q rfl fun a q=>zn<|zq<|zq<|zr<|zm q rfl fun a q=>zl q (r_ibin q rfl rfl rfl) fun a q=>zn ?_
 refine wp_cond_split (q.ev rfl) (fun (hb_22 : (y_14.2.2 != 0) = true)=>?_) fun hb_22=>?_
 rw [ifb_t hb_22] at H
 refine zq<|zr<|za q rfl fun a q=>za q rfl fun a q=>za q rfl fun a q=>zn ?_
 have s:=s.row_nil 47 2
 have hq_24 : Reps ty_api_Col R_16 [] ([] : List api_Col):=Reps.nil _ _
 obtain rfl:=Option.some.inj H
 refine wp_ret ?_
 repeat first | refine zt ?_ | refine zb ?_ | refine zo ?_
 exact ret_3 results11 q (rv_tmp q rfl) (rv_tmp q rfl) (rv_tmp q rfl) ⟨_,rfl,_,_,_,_,rfl,(s.trunc 1),hRL,hq_24,SlR.nil _ _⟩
 rw [ifb_f hb_22] at H
 refine wp_skip<|zq<|zr<|zm q rfl fun a q=>?_
 obtain ⟨y_25,h_26,H⟩:=bs H
 obtain ⟨b_28,c_29,cs_30,hv_27,hr_31,hc_32,h_260,h_261⟩:=s.row_ix z0 hq_21 rfl rfl h_26
 obtain ⟨v_33,rfl,hs_34⟩:=hr_31
 refine zl q (r_indexAddr_R underlying62 sizeOf22 hv_27 h_260 h_261 q rfl rfl) fun a q=>zl q (r_load isAgg22 q rfl (s.row_cell z0 hv_27 (hc_32 0 _ rfl))) fun a q=>za q rfl fun a q=>zn<|zq<|zr<|zm q rfl fun a q=>zm q rfl fun a q=>zl q (r_len_R underlying23 h1_0 q rfl) fun a q=>?_
 obtain ⟨y_35,h_36,H⟩:=bs H
 obtain ⟨v_37,hs_38,hr_39⟩:=r_slice_R (x:=.tmp 36) (lo:=none) (hi:=some (.tmp 38)) underlying22 sizeOf47 hs_34 h_36 q rfl rfl ⟨_,rfl⟩
 refine zl q (hr_39 _ _ _ _ _ _ _ q) fun a q=>?_
 obtain ⟨y_40,h_41,H⟩:=bs H
 refine sl_call call26 q (by decide) rfl rfl rfl (slices_Clone_api_Col_api_Col.calls y_35 (lentOf_sub [] _) s.sub (hs_38.mono s.rLe0) h_41) fun a v_ w hv_ q=>?_
 obtain ⟨R_42,v_45,cs_46,hv_,hr_,hl_43,hq_47⟩:=hv_
 have hv_:=hv_.symm
 subst hv_
 obtain ⟨s,hl_43⟩:=s.sp0.back hr_ hl_43
 have s:=s.un1
 have hRL:=hRL.trans hl_43
 refine za q rfl fun a q=>zn<|zq<|zq<|zr<|zm q rfl fun a q=>zl q (r_len_R underlying24 h2_0 q rfl) fun a q=>zm q rfl fun a q=>zn ?_
 refine wp_block ?_
 refine wp_loop_k (fun k_l0 a w=>∃ (x_104 : List api_Col) (x_108 : Int) (v_105 : Value) (cs_106 : List Value),group_Cols.l0 a1 a2 y_25 k_l0 x_104 x_108 = some r ∧ Reps ty_api_Col R_42 cs_106 x_104 ∧ Kn 80 a [(1,v1_0),(6,v_105),(7,v_33),(41,v2_0),(42,I6 (a2.length : Int)),(43,I6 x_108)] ∧ St [] w0 w R_42 [.row 47 2 v_105 x_104.length cs_106]) (((a2.length : Int) - 0).toNat + 1) ?_ ?_
 exact ⟨y_40,0,_,_,H,hq_47,q.sub (zc (zc (zc (zc (zc (zc zz)))))),s.trunc 1⟩
 rintro k_l0 a w ⟨x_104,x_108,v_105,cs_106,H,hq_107,q,s⟩
 rcases k_l0 with _ | k_l0
 cases H
 rw [group_Cols.l0.eq_2] at H
 refine zq<|zr<|zl q (r_ibin q rfl rfl rfl) fun a q=>zn<|zq ?_
 refine wp_cond_split (q.ev rfl) (fun (hb_164 : (decide (x_108 < (a2.length : Int))) = true)=>?_) fun hb_164=>?_
 rw [ifb_t hb_164] at H
 refine wp_skip<|zq ?_
 refine wp_block ?_
 refine zq<|zr<|zm q rfl fun a q=>?_
 obtain ⟨y_165,h_166,H⟩:=bs H
 obtain ⟨b_167,o_168,c_169,cs_170,hv_171,hr_172,hc_173,h_1660,h_1661⟩:=h2_0.ix h_166
 subst hr_172
 refine zl q (r_indexAddr_R underlying24 sizeOf49 hv_171 h_1660 h_1661 q rfl rfl) fun a q=>zl q (r_loadA (cs:=[I6 y_165.Kind,.string y_165.Col]) isAgg49 sizeOf49 rfl q rfl (fun j v hv=>(s.sub.le (hl_7.le.trans (hl_10.le.trans (hl_13.le.trans (hl_17.le.trans hl_43.le))))).cell (hc_173 j v hv))) fun a q=>?_
 refine sl_alloc zeroValue49 s q (by decide) rfl rfl fun a w b_174 s q=>?_
 refine za q rfl fun a q=>?_
 refine sl_storeA (vs:=[I6 y_165.Kind,.string y_165.Col]) (c':=[I6 y_165.Kind,.string y_165.Col]) sizeOf49 s q rfl rfl rfl rfl (zc (zc zz)) (Nat.le_of_ble_eq_true rfl) rfl fun a w s q=>?_
 refine zn<|zq<|zr<|zm q rfl fun a q=>?_
 obtain ⟨y_175,h_176,H⟩:=bs H
 refine sl_callV call27 s q (by decide) rfl rfl rfl (strconv_Itoa.calls x_108 (lentOf_sub [] _) (GF.mono (s.raLe0 hRA nil_not) hG) h_176) fun a w s q=>?_
 rcases or_b (decide ((⟨#[112,35]⟩ : ByteArray).size + y_175.size ≤ 9223372036854775807)) with hn_177 | hn_177
 rw [ifb_t hn_177] at H
 refine zl q (r_sadd q rfl rfl (of_decide_eq_true hn_177)) fun a q=>za q rfl fun a q=>zn<|zq<|zr<|zm q rfl fun a q=>zm q rfl fun a q=>zm q rfl fun a q=>zm q rfl fun a q=>zl q (r_len_R underlying23 h1_0 q rfl) fun a q=>zm q rfl fun a q=>zl q (r_ibin q rfl rfl rfl) fun a q=>?_
 obtain ⟨y_178,h_179,H⟩:=bs H
 obtain ⟨b_180,o_181,c_182,cs_183,hv_184,hr_185,hc_186,h_1790,h_1791⟩:=hs_34.ix h_179
 subst hr_185
 refine zl q (r_indexAddr_R underlying22 sizeOf47 hv_184 h_1790 h_1791 q rfl rfl) fun a q=>zl q (r_fieldAddr underlying47 rfl sizeOf3 q rfl) fun a q=>zl q (r_load isAgg3 q rfl ((s.sub.le hl_43.le).cell (hc_186 1 _ rfl))) fun a q=>zl q (r_buildC (ps:=[(0,.string ((⟨#[112,35]⟩ : ByteArray) ++ y_175)),(1,I6 y_178.Kind)]) (c:=[.string ((⟨#[112,35]⟩ : ByteArray) ++ y_175),I6 y_178.Kind]) underlying47 zeroValue47 places47 q rfl (pc_cons rfl (pc_cons rfl pc_nil)) rfl rfl) fun a q=>?_
 refine sl_buildSliceF (zc:=[.string (⟨#[]⟩ : ByteArray),I6 0]) (ps:=[(0,.agg #[.string ((⟨#[112,35]⟩ : ByteArray) ++ y_175),I6 y_178.Kind])]) (c:=[.string ((⟨#[112,35]⟩ : ByteArray) ++ y_175),I6 y_178.Kind]) [[.string ((⟨#[112,35]⟩ : ByteArray) ++ y_175),I6 y_178.Kind]] underlying22 sizeOf47 zeroValue47 rfl (pc_cons rfl pc_nil) rfl rfl (Nat.le_of_ble_eq_true rfl) rfl (zc zz) rfl s q (by decide) rfl fun a w b_187 s q=>?_
 obtain ⟨y_188,h_189,H⟩:=bs H
 have s:=s.pk2
 refine sl_append_L (ty:=ty_api_Col) (ys:=[(⟨(⟨#[112,35]⟩ : ByteArray) ++ y_175,y_178.Kind⟩ : api_Col)]) elT22 (by decide) rfl hq_107 rfl (Reps.cons (show Ty.rep ty_api_Col _ [.string ((⟨#[112,35]⟩ : ByteArray) ++ y_175),I6 y_178.Kind] (⟨(⟨#[112,35]⟩ : ByteArray) ++ y_175,y_178.Kind⟩ : api_Col) from rfl) (Reps.nil _ _)) rfl h_189 s q (by decide) rfl rfl rfl fun a w v_190 cs_191 hq_192 s q=>?_
 refine za q rfl fun a q=>zn<|zq<|zr<|zl q (r_fieldAddr underlying49 rfl sizeOf3 q rfl) fun a q=>zl q (r_load isAgg3 q rfl (s.cell z1 rfl)) fun a q=>zl q (r_ibin q rfl rfl rfl) fun a q=>zn ?_
 refine wp_mid (fun a w=>∃ (x_204 : List api_Col) (v_205 : Value) (cs_206 : List Value),group_Cols.j1 (group_Cols.l0 a1 a2 y_25 k_l0) a2 x_108 x_204 = some r ∧ Reps ty_api_Col R_42 cs_206 x_204 ∧ Kn 80 a [(1,v1_0),(6,v_205),(7,v_33),(41,v2_0),(42,I6 (a2.length : Int)),(43,I6 x_108)] ∧ St [] w0 w R_42 [.row 47 2 v_205 x_204.length cs_206]) ?_ ?_
 refine wp_cond_split (q.ev rfl) (fun (hb_209 : (y_165.Kind == 5) = true)=>?_) fun hb_209=>?_
 rw [ifb_t hb_209] at H
 refine zr<|zm q rfl fun a q=>zm q rfl fun a q=>?_
 rcases or_b (decide (((⟨#[112,35]⟩ : ByteArray) ++ y_175).size + (⟨#[35,110]⟩ : ByteArray).size ≤ 9223372036854775807)) with hn_210 | hn_210
 rw [ifb_t hn_210] at H
 refine zl q (r_sadd q rfl rfl (of_decide_eq_true hn_210)) fun a q=>zl q (r_buildC (ps:=[(0,.string (((⟨#[112,35]⟩ : ByteArray) ++ y_175) ++ (⟨#[35,110]⟩ : ByteArray))),(1,I6 1)]) (c:=[.string (((⟨#[112,35]⟩ : ByteArray) ++ y_175) ++ (⟨#[35,110]⟩ : ByteArray)),I6 1]) underlying47 zeroValue47 places47 q rfl (pc_cons rfl (pc_cons rfl pc_nil)) rfl rfl) fun a q=>?_
 refine sl_buildSliceF (zc:=[.string (⟨#[]⟩ : ByteArray),I6 0]) (ps:=[(0,.agg #[.string (((⟨#[112,35]⟩ : ByteArray) ++ y_175) ++ (⟨#[35,110]⟩ : ByteArray)),I6 1])]) (c:=[.string (((⟨#[112,35]⟩ : ByteArray) ++ y_175) ++ (⟨#[35,110]⟩ : ByteArray)),I6 1]) [[.string (((⟨#[112,35]⟩ : ByteArray) ++ y_175) ++ (⟨#[35,110]⟩ : ByteArray)),I6 1]] underlying22 sizeOf47 zeroValue47 rfl (pc_cons rfl pc_nil) rfl rfl (Nat.le_of_ble_eq_true rfl) rfl (zc zz) rfl s q (by decide) rfl fun a w b_211 s q=>?_
 obtain ⟨y_212,h_213,H⟩:=bs H
 have s:=s.pk1
 refine sl_append_L (ty:=ty_api_Col) (ys:=[(⟨((⟨#[112,35]⟩ : ByteArray) ++ y_175) ++ (⟨#[35,110]⟩ : ByteArray),1⟩ : api_Col)]) elT22 (by decide) rfl hq_192 rfl (Reps.cons (show Ty.rep ty_api_Col _ [.string (((⟨#[112,35]⟩ : ByteArray) ++ y_175) ++ (⟨#[35,110]⟩ : ByteArray)),I6 1] (⟨((⟨#[112,35]⟩ : ByteArray) ++ y_175) ++ (⟨#[35,110]⟩ : ByteArray),1⟩ : api_Col) from rfl) (Reps.nil _ _)) rfl h_213 s q (by decide) rfl rfl rfl fun a w v_214 cs_215 hq_216 s q=>?_
 refine za q rfl fun a q=>zn ?_
 exact ⟨y_212,_,_,H,hq_216,q.sub (zc (zc (zc (zc (zc (zc zz)))))),s.trunc 1⟩
 rw [ifb_f hn_210] at H
 cases H
 rw [ifb_f hb_209] at H
 refine wp_skip ?_
 exact ⟨y_188,_,_,H,hq_192,q.sub (zc (zc (zc (zc (zc (zc zz)))))),s.trunc 1⟩
 rintro a w ⟨x_204,v_205,cs_206,H,hq_207,q,s⟩
 unfold group_Cols.j1 at H
 refine zr<|zl q (r_ibin q rfl rfl rfl) fun a q=>zm q rfl fun a q=>zn ?_
 exact ⟨_,Nat.lt_succ_self _,x_204,(IntKind.i64.wrap (x_108 + 1)),_,_,H,hq_207,q.sub (zc (zc (zc (zc (zc (zc zz)))))),s⟩
 rw [ifb_f hn_177] at H
 cases H
 rw [ifb_f hb_164] at H
 refine wp_exit ?_
 refine zq<|zq<|zr<|zm q rfl fun a q=>?_
 have ho_218:=s.row_one z0
 refine zl q (r_buildC (ps:=[(0,v_105)]) (c:=[v_105,.slice none 0 0]) underlying35 zeroValue35 places35 q rfl (pc_cons (cells1 ho_218) pc_nil) rfl rfl) fun a q=>?_
 obtain ⟨y_219,h_220,H⟩:=bs H
 refine sl_callV call28 s q (by decide) rfl rfl rfl (table_Check.calls (⟨x_104,[]⟩ : api_Table) (lentOf_sub [] _) (s.lend_row0 z0 hq_107 rfl rfl) (SlR.nil (tySl ty_api_Value) _) h_220) fun a w s q=>?_
 refine zl q (r_ibin q rfl rfl rfl) fun a q=>zn ?_
 refine wp_cond_split (q.ev rfl) (fun (hb_221 : (y_219 != 0) = true)=>?_) fun hb_221=>?_
 rw [ifb_t hb_221] at H
 refine zq<|zr<|za q rfl fun a q=>za q rfl fun a q=>za q rfl fun a q=>zn ?_
 have s:=s.row_nil 47 2
 have hq_223 : Reps ty_api_Col R_42 [] ([] : List api_Col):=Reps.nil _ _
 obtain rfl:=Option.some.inj H
 refine wp_ret ?_
 repeat first | refine zt ?_ | refine zb ?_ | refine zo ?_
 exact ret_3 results11 q (rv_tmp q rfl) (rv_tmp q rfl) (rv_tmp q rfl) ⟨_,rfl,_,_,_,_,rfl,(s.trunc 1),hRL,hq_223,SlR.nil _ _⟩
 rw [ifb_f hb_221] at H
 refine wp_skip<|zq<|zr<|zm q rfl fun a q=>zm q rfl fun a q=>za q rfl fun a q=>za q rfl fun a q=>za q rfl fun a q=>zn ?_
 obtain rfl:=Option.some.inj H
 refine wp_ret ?_
 repeat first | refine zt ?_ | refine zb ?_ | refine zo ?_
 exact ret_3 results11 q (rv_tmp q rfl) (rv_tmp q rfl) (rv_tmp q rfl) ⟨_,rfl,_,_,_,_,rfl,s,hRL,hq_107,(hs_34.mono hl_43.le)⟩
theorem group_Partial_1_cp_cp.calls (a0 : ByteArray) (a1 : List api_Value) (a2 : api_Table) {w0 : World} {RA : Hp} {b1 : Nat} {o1 : Nat} {v1_0 : Value} {b2 : Nat} {o2 : Nat} {v2_0 : Value} {v2_1 : Value} (hRA : RA.sub w0) (hc1 : ∀ j u,([v1_0] : List Value)[j]? = some u → RA.cell b1 (o1 + j) = some u) (h1_0 : SlR ty_api_Value RA v1_0 a1) (hc2 : ∀ j u,([v2_0,v2_1] : List Value)[j]? = some u → RA.cell b2 (o2 + j) = some u) (h2_0 : SlR ty_api_Col RA v2_0 a2.Cols) (h2_1 : SlR (tySl ty_api_Value) RA v2_1 a2.Rows) {r : api_Value} (H : group_Partial_1_cp_cp a0 a1 a2 = some r) : CallsV prog 32 #[.string a0,.pointer (some ⟨b1,o1,none⟩),.pointer (some ⟨b2,o2,none⟩)] w0 (.agg ⟨cV r⟩):=by
 unfold group_Partial_1_cp_cp at H
 refine enter (args:=[.string a0,.pointer (some ⟨b1,o1,none⟩),.pointer (some ⟨b2,o2,none⟩)]) func32 rfl ntmps32 rfl fun a q=>?_
 have s:=St.init (R:=fun _=>none) (w:=w0) (fun _ _ h=>by cases h)
 have hRL:=RLe.refl (M:=[]) w0 (fun _=>none)
 refine zq<|zr ?_
 refine sl_alloc zeroValue52 s q (by decide) rfl rfl fun a w b_1 s q=>?_
 refine zn<|zq ?_
 refine parT_region (C:=fun w=>St [] w0 w (fun _=>none) [.cells b_1 [I6 0,I6 0,.string (⟨#[]⟩ : ByteArray),I6 0,I6 0,I6 0,I6 0,I6 0,I6 0,I6 0,I6 0] 52]) 5 [(0,true),(1,true),(2,true),(3,true),(4,false)] mixed (by kernel_rfl) s (fun w s=>s) fun w s=>?_
 refine zp rfl q (fun w s=>r_load isAgg53 q rfl ((s.ra hRA nil_not).cell (hc1 0 _ rfl))) fun a q=>zp rfl q (fun w s=>r_fieldAddr underlying35 rfl sizeOf22 q rfl) fun a q=>zp rfl q (fun w s=>r_load isAgg22 q rfl ((s.ra hRA nil_not).cell (hc2 0 _ rfl))) fun a q=>zp rfl q (fun w s=>r_move q rfl) fun a q=>?_
 refine spw (k:=4) rfl rfl s ?_
 obtain ⟨y_13,h_14,H⟩:=bs H
 refine sl_callV call33 s q (by decide) rfl rfl rfl (table_Find.calls a2.Cols a0 (lentOf_sub [] _) (h2_0.mono (s.raLe0 hRA nil_not)) h_14) fun a w s q=>?_
 refine parK_nil s ?_
 refine thenL_nil ?_
 obtain ⟨y_15,h_16,H⟩:=bs H
 obtain ⟨b_17,o_18,c_19,cs_20,hv_21,hr_22,hc_23,h_160,h_161⟩:=h1_0.ix h_16
 subst hr_22
 refine zl q (r_indexAddr_R underlying53 sizeOf52 hv_21 h_160 h_161 q rfl rfl) fun a q=>zl q (r_loadA (cs:=(cV y_15)) isAgg52 sizeOf52 rfl q rfl (fun j v hv=>(s.ra hRA nil_not).cell (hc_23 j v hv))) fun a q=>?_
 refine sl_storeA (vs:=(cV y_15)) (c':=(cV y_15)) sizeOf52 s q rfl rfl rfl rfl (zc (zc (zc (zc (zc (zc (zc (zc (zc (zc (zc zz))))))))))) (Nat.le_of_ble_eq_true rfl) rfl fun a w s q=>?_
 refine wpList_nil (NoP_nil ?_)
 obtain rfl:=Option.some.inj H
 refine wp_ret ?_
 repeat first | refine zt ?_ | refine zb ?_ | refine zo ?_
 exact ret_1 results32 q (rv_cell (c:=(cV y_15)) isAgg52 sizeOf52 s z0 rfl q rfl) ⟨rfl,s.bel⟩
theorem value_OfInt.calls (a0 : Int) {r : api_Value} (H : value_OfInt a0 = some r) (w0 : World) : CallsV prog 34 #[I6 a0] w0 (.agg ⟨cV r⟩):=by
 unfold value_OfInt at H
 refine enter (args:=[I6 a0]) func34 rfl ntmps34 rfl fun a q=>?_
 have s:=St.init (R:=fun _=>none) (w:=w0) (fun _ _ h=>by cases h)
 have hRL:=RLe.refl (M:=[]) w0 (fun _=>none)
 refine zq<|zr ?_
 refine sl_alloc zeroValue52 s q (by decide) rfl rfl fun a w b_1 s q=>?_
 refine zn<|zq<|zr<|zm q rfl fun a q=>zl q (r_buildC (ps:=[(0,I6 1),(1,I6 a0)]) (c:=[I6 1,I6 a0,.string (⟨#[]⟩ : ByteArray),I6 0,I6 0,I6 0,I6 0,I6 0,I6 0,I6 0,I6 0]) underlying52 zeroValue52 places52 q rfl (pc_cons rfl (pc_cons rfl pc_nil)) rfl rfl) fun a q=>?_
 refine sl_storeA (vs:=[I6 1,I6 a0,.string (⟨#[]⟩ : ByteArray),I6 0,I6 0,I6 0,I6 0,I6 0,I6 0,I6 0,I6 0]) (c':=[I6 1,I6 a0,.string (⟨#[]⟩ : ByteArray),I6 0,I6 0,I6 0,I6 0,I6 0,I6 0,I6 0,I6 0]) sizeOf52 s q rfl rfl rfl rfl (zc (zc (zc (zc (zc (zc (zc (zc (zc (zc (zc zz))))))))))) (Nat.le_of_ble_eq_true rfl) rfl fun a w s q=>?_
 refine zn ?_
 obtain rfl:=Option.some.inj H
 refine wp_ret ?_
 repeat first | refine zt ?_ | refine zb ?_ | refine zo ?_
 exact ret_1 results34 q (rv_cell (c:=[I6 1,I6 a0,.string (⟨#[]⟩ : ByteArray),I6 0,I6 0,I6 0,I6 0,I6 0,I6 0,I6 0,I6 0]) isAgg52 sizeOf52 s z0 rfl q rfl) ⟨rfl,s.bel⟩
theorem group_width.calls (a0 : api_Agg) {r : Int} (H : group_width a0 = some r) (w0 : World) : CallsV prog 44 #[.agg #[I6 a0.Kind,.string a0.Col]] w0 (I6 r):=by
 unfold group_width at H
 refine enter (args:=[.agg #[I6 a0.Kind,.string a0.Col]]) func44 rfl ntmps44 rfl fun a q=>?_
 have s:=St.init (R:=fun _=>none) (w:=w0) (fun _ _ h=>by cases h)
 have hRL:=RLe.refl (M:=[]) w0 (fun _=>none)
 refine zq<|zr ?_
 refine sl_box s q (by decide) rfl rfl (c:=[I6 a0.Kind,.string a0.Col]) rfl fun a w b_1 s q=>?_
 refine za q rfl fun a q=>zn<|zq<|zq<|zr<|zl q (r_fieldAddr underlying49 rfl sizeOf3 q rfl) fun a q=>zl q (r_load isAgg3 q rfl (s.cell z0 rfl)) fun a q=>zl q (r_ibin q rfl rfl rfl) fun a q=>zn ?_
 refine wp_cond_split (q.ev rfl) (fun (hb_2 : (a0.Kind == 5) = true)=>?_) fun hb_2=>?_
 rw [ifb_t hb_2] at H
 refine zq<|zr<|za q rfl fun a q=>zn ?_
 obtain rfl:=Option.some.inj H
 refine wp_ret ?_
 repeat first | refine zt ?_ | refine zb ?_ | refine zo ?_
 exact ret_1 results44 q (rv_tmp q rfl) ⟨rfl,s.bel⟩
 rw [ifb_f hb_2] at H
 refine wp_skip<|zq<|zr<|za q rfl fun a q=>zn ?_
 obtain rfl:=Option.some.inj H
 refine wp_ret ?_
 repeat first | refine zt ?_ | refine zb ?_ | refine zo ?_
 exact ret_1 results44 q (rv_tmp q rfl) ⟨rfl,s.bel⟩
theorem slices_Clone_byte_byte.calls (a0 : List Int) {w0 : World} {R : Hp} {RA : Hp} {v0_0 : Value} (hRA : RA.sub w0) (hR : R.sub w0) (h0_0 : SlR (tyInt .u8) RA v0_0 a0) {r : List Int} (H : slices_Clone_byte_byte a0 = some r) : Calls prog 102 #[v0_0] w0 (Rets fun v w'=>∃ (R' : Hp) (u0 : Value) (cu0 : List Value),v = u0 ∧ St [] w0 w' R' [.row 5 1 u0 r.length cu0] ∧ RLe [] w0 R R' ∧ Reps (tyInt .u8) R' cu0 r):=by
 unfold slices_Clone_byte_byte at H
 rcases SlR.nilcase h0_0 with ⟨hn,hx⟩ | ⟨ad_,m_,c_,hn⟩
 subst hx
 have H : some ([] : List Int) = some r:=by simpa [apd] using H
 refine enter (args:=[v0_0]) func102 rfl ntmps102 rfl fun a q=>?_
 have s:=St.init hR
 have hRL:=RLe.refl (M:=[]) w0 R
 refine zq<|zr<|za q rfl fun a q=>zn<|zq<|zq<|zr<|zm q rfl fun a q=>zl q (r_sleqN underlying84 hn q rfl rfl) fun a q=>zn ?_
 refine wp_cond_true (q.ev rfl) ?_
 refine zq<|zr<|za q rfl fun a q=>zn ?_
 have s:=s.row_nil 5 1
 have hq_11 : Reps (tyInt .u8) R [] ([] : List Int):=Reps.nil _ _
 obtain rfl:=Option.some.inj H
 refine wp_ret ?_
 repeat first | refine zt ?_ | refine zb ?_ | refine zo ?_
 exact ret_1 results102 q (rv_tmp q rfl) ⟨_,rfl,_,_,_,rfl,s,hRL,hq_11⟩
 refine enter (args:=[v0_0]) func102 rfl ntmps102 rfl fun a q=>?_
 have s:=St.init hR
 have hRL:=RLe.refl (M:=[]) w0 R
 refine zq<|zr<|za q rfl fun a q=>zn<|zq<|zq<|zr<|zm q rfl fun a q=>zl q (r_sleqS underlying84 hn q rfl rfl) fun a q=>zn ?_
 refine wp_cond_false (q.ev rfl) ?_
 refine wp_skip<|zq<|zr ?_
 refine sl_buildSliceC (zc:=[.int .u8 0]) (zs:=[]) (ps:=[]) (c:=[]) underlying84 sizeOf5 zeroValue5 rfl pc_nil rfl rfl (by decide) (by kernel_rfl) rfl s q (by decide) rfl fun a w b_1 s q=>?_
 refine zm q rfl fun a q=>?_
 obtain ⟨y_4,h_5,H⟩:=bs H
 have s:=s.row_lit (size:=1) (m:=0) rfl (by decide)
 have hq_3 : Reps (tyInt .u8) R [] ([] : List Int):=(Reps.nil _ _)
 refine sl_append_A elT84 (by decide) rfl (fun _ _ _ _ h=>h) (s.ra hRA nil_not) hq_3 rfl h0_0 h_5 s q (by decide) rfl rfl rfl fun a w v_6 cs_7 hq_8 s q=>?_
 refine za q rfl fun a q=>zn ?_
 obtain rfl:=Option.some.inj H
 refine wp_ret ?_
 repeat first | refine zt ?_ | refine zb ?_ | refine zo ?_
 exact ret_1 results102 q (rv_tmp q rfl) ⟨_,rfl,_,_,_,rfl,s,hRL,hq_8⟩
theorem wire_big.calls (a0 : List Int) (a1 : Int) (a2 : Int) {w0 : World} {R : Hp} {M : List Own} {v0_0 : Value} {cs0_0 : List Value} (hS0 : St M w0 w0 R [.row 5 1 v0_0 a0.length cs0_0]) (h0_0 : Reps (tyInt .u8) R cs0_0 a0) {r : List Int} (H : wire_big a0 a1 a2 = some r) : Calls prog 129 #[v0_0,I6 a1,I6 a2] w0 (Rets fun v w'=>∃ (R' : Hp) (u0 : Value) (cu0 : List Value),v = u0 ∧ St M w0 w' R' [.row 5 1 u0 r.length cu0] ∧ RLe M w0 R R' ∧ Reps (tyInt .u8) R' cu0 r):=by
 unfold wire_big at H
 refine enter (args:=[v0_0,I6 a1,I6 a2]) func129 rfl ntmps129 rfl fun a q=>?_
 have s:=hS0
 have hRL:=RLe.refl (M:=M) w0 R
 refine zq<|zr<|za q rfl fun a q=>zn<|zq<|zq<|zr<|zm q rfl fun a q=>zl q (r_ibin q rfl rfl rfl) fun a q=>za q rfl fun a q=>zn ?_
 refine wp_block ?_
 refine wp_loop_k (fun k_l0 a w=>∃ (x_12 : List Int) (x_16 : Int) (v_13 : Value) (cs_14 : List Value),wire_big.l0 a1 a2 k_l0 x_12 x_16 = some r ∧ Reps (tyInt .u8) R cs_14 x_12 ∧ Kn 23 a [(0,v_13),(1,I6 a1),(7,I6 x_16)] ∧ St M w0 w R [.row 5 1 v_13 x_12.length cs_14]) (((IntKind.i64.wrap (a2 - 1)) - 0).toNat + 2) ?_ ?_
 exact ⟨a0,(IntKind.i64.wrap (a2 - 1)),_,_,H,h0_0,q.sub (zc (zc (zc zz))),s⟩
 rintro k_l0 a w ⟨x_12,x_16,v_13,cs_14,H,hq_15,q,s⟩
 rcases k_l0 with _ | k_l0
 cases H
 rw [wire_big.l0.eq_2] at H
 refine zq<|zq<|zr<|zm q rfl fun a q=>zl q (r_ibin q rfl rfl rfl) fun a q=>zn ?_
 refine wp_cond_split (q.ev rfl) (fun (hb_27 : (decide (x_16 ≥ 0)) = true)=>?_) fun hb_27=>?_
 rw [ifb_t hb_27] at H
 refine wp_skip<|zq ?_
 refine wp_block ?_
 refine zr<|zm q rfl fun a q=>zm q rfl fun a q=>zm q rfl fun a q=>zl q (r_ibin q rfl rfl rfl) fun a q=>?_
 rcases or_b (decide (0 ≤ (IntKind.i64.wrap (8 * x_16)))) with hn_28 | hn_28
 rw [ifb_t hn_28] at H
 refine zl q (r_shr q rfl rfl (of_decide_eq_true hn_28)) fun a q=>zl q (r_conv underlying3 underlying5 q rfl) fun a q=>?_
 refine sl_buildSliceF (zc:=[.int .u8 0]) (ps:=[(0,.int .u8 (IntKind.u8.wrap (a1.fdiv (2 ^ (min (IntKind.i64.wrap (8 * x_16)).toNat 64)))))]) (c:=[.int .u8 (IntKind.u8.wrap (a1.fdiv (2 ^ (min (IntKind.i64.wrap (8 * x_16)).toNat 64))))]) [[.int .u8 (IntKind.u8.wrap (a1.fdiv (2 ^ (min (IntKind.i64.wrap (8 * x_16)).toNat 64))))]] underlying84 sizeOf5 zeroValue5 rfl (pc_cons rfl pc_nil) rfl rfl (Nat.le_of_ble_eq_true rfl) rfl (zc zz) rfl s q (by decide) rfl fun a w b_29 s q=>?_
 obtain ⟨y_30,h_31,H⟩:=bs H
 have s:=s.pk1
 refine sl_append_L (ty:=(tyInt .u8)) (ys:=[IntKind.u8.wrap (a1.fdiv (2 ^ (min (IntKind.i64.wrap (8 * x_16)).toNat 64)))]) elT84 (by decide) rfl hq_15 rfl (Reps.cons (show Ty.rep (tyInt .u8) _ [.int .u8 (IntKind.u8.wrap (a1.fdiv (2 ^ (min (IntKind.i64.wrap (8 * x_16)).toNat 64))))] (IntKind.u8.wrap (a1.fdiv (2 ^ (min (IntKind.i64.wrap (8 * x_16)).toNat 64)))) from rfl) (Reps.nil _ _)) rfl h_31 s q (by decide) rfl rfl rfl fun a w v_32 cs_33 hq_34 s q=>?_
 refine za q rfl fun a q=>zn<|zr<|zm q rfl fun a q=>zl q (r_ibin q rfl rfl rfl) fun a q=>za q rfl fun a q=>zn ?_
 exact ⟨_,Nat.lt_succ_self _,y_30,(IntKind.i64.wrap (x_16 - 1)),_,_,H,hq_34,q.sub (zc (zc (zc zz))),s⟩
 rw [ifb_f hn_28] at H
 cases H
 rw [ifb_f hb_27] at H
 refine wp_exit ?_
 refine zq<|zr<|zm q rfl fun a q=>za q rfl fun a q=>zn ?_
 obtain rfl:=Option.some.inj H
 refine wp_ret ?_
 repeat first | refine zt ?_ | refine zb ?_ | refine zo ?_
 exact ret_1 results129 q (rv_tmp q rfl) ⟨_,rfl,_,_,_,rfl,s,hRL,hq_15⟩
theorem wire_put.calls (a0 : List Int) (a1 : api_Value) {w0 : World} {R : Hp} {M : List Own} {v0_0 : Value} {cs0_0 : List Value} (hS0 : St M w0 w0 R [.row 5 1 v0_0 a0.length cs0_0]) (h0_0 : Reps (tyInt .u8) R cs0_0 a0) {r : List Int} (H : wire_put a0 a1 = some r) : Calls prog 101 #[v0_0,.agg ⟨cV a1⟩] w0 (Rets fun v w'=>∃ (R' : Hp) (u0 : Value) (cu0 : List Value),v = u0 ∧ St M w0 w' R' [.row 5 1 u0 r.length cu0] ∧ RLe M w0 R R' ∧ Reps (tyInt .u8) R' cu0 r):=by
 unfold wire_put at H
 refine enter (args:=[v0_0,.agg ⟨cV a1⟩]) func101 rfl ntmps101 rfl fun a q=>?_
 have s:=hS0
 have hRL:=RLe.refl (M:=M) w0 R
 refine zq<|zr ?_
 refine sl_box s q (by decide) rfl rfl (c:=(cV a1)) rfl fun a w b_1 s q=>?_
 refine za q rfl fun a q=>zn<|zq<|zq<|zr<|zl q (r_fieldAddr underlying52 rfl sizeOf3 q rfl) fun a q=>zl q (r_load isAgg3 q rfl (s.cell z0 rfl)) fun a q=>zn ?_
 refine wp_block ?_
 refine zq<|zr<|zl q (r_ibin q rfl rfl rfl) fun a q=>za q rfl fun a q=>zn ?_
 refine wp_cond_split (q.ev rfl) (fun (hb_2 : (a1.Kind == 1) = true)=>?_) fun hb_2=>?_
 rw [ifb_t hb_2] at H
 refine zq<|zr<|zm q rfl fun a q=>zl q (r_fieldAddr underlying52 rfl sizeOf3 q rfl) fun a q=>zl q (r_load isAgg3 q rfl (s.cell z0 rfl)) fun a q=>?_
 obtain ⟨y_3,h_4,H⟩:=bs H
 have s:=s.pk1
 have hS1:=s.sp1
 refine sl_call call129 q (by decide) rfl rfl rfl (wire_big.calls a0 a1.N 8 hS1.lend h0_0 h_4) fun a v_ w hv_ q=>?_
 obtain ⟨R_5,v_8,cs_9,hv_,hr_,hl_6,hq_10⟩:=hv_
 have hv_:=hv_.symm
 subst hv_
 obtain ⟨s,hl_6⟩:=hS1.back hr_ hl_6
 have s:=s.un1
 have hRL:=hRL.trans hl_6
 refine za q rfl fun a q=>zn ?_
 obtain rfl:=Option.some.inj H
 refine wp_ret ?_
 repeat first | refine zt ?_ | refine zb ?_ | refine zo ?_
 exact ret_1 results101 q (rv_tmp q rfl) ⟨_,rfl,_,_,_,rfl,(s.trunc 1),hRL,hq_10⟩
 rw [ifb_f hb_2] at H
 refine zq<|zr<|zl q (r_ibin q rfl rfl rfl) fun a q=>za q rfl fun a q=>zn ?_
 refine wp_cond_split (q.ev rfl) (fun (hb_11 : (a1.Kind == 2) = true)=>?_) fun hb_11=>?_
 rw [ifb_t hb_11] at H
 refine zq ?_
 refine parT_region (C:=fun w=>St M w0 w R [.cells b_1 (cV a1) 52]) 9 [(0,true),(1,true),(2,true),(3,true),(4,true),(7,true),(8,true),(5,false),(6,false)] mixed (by kernel_rfl) s (fun w s=>(s.trunc 1)) fun w s=>?_
 refine zp rfl q (fun w s=>r_move q rfl) fun a q=>zp rfl q (fun w s=>r_fieldAddr underlying52 rfl sizeOf9 q rfl) fun a q=>zp rfl q (fun w s=>r_load isAgg9 q rfl (s.cell z0 rfl)) fun a q=>zp rfl q (fun w s=>r_len_str underlying9 q rfl) fun a q=>zp rfl q (fun w s=>r_conv underlying3 underlying5 q rfl) fun a q=>zp rfl q (fun w s=>r_fieldAddr underlying52 rfl sizeOf9 q rfl) fun a q=>zp rfl q (fun w s=>r_load isAgg9 q rfl (s.cell z0 rfl)) fun a q=>?_
 refine spw (k:=5) rfl rfl (s.trunc 1) ?_
 refine sl_buildSliceF (zc:=[.int .u8 0]) (ps:=[(0,.int .u8 (IntKind.u8.wrap (a1.S.size : Int)))]) (c:=[.int .u8 (IntKind.u8.wrap (a1.S.size : Int))]) [[.int .u8 (IntKind.u8.wrap (a1.S.size : Int))]] underlying84 sizeOf5 zeroValue5 rfl (pc_cons rfl pc_nil) rfl rfl (Nat.le_of_ble_eq_true rfl) rfl (zc zz) rfl s q (by decide) rfl fun a w b_25 s q=>?_
 refine parK_nil (s.pk1.trunc 1) ?_
 refine spw (k:=6) rfl rfl (s.pk1.trunc 1) ?_
 obtain ⟨y_26,h_27,H⟩:=bs H
 have s:=s.pk2
 refine sl_append_L (ty:=(tyInt .u8)) (ys:=[IntKind.u8.wrap (a1.S.size : Int)]) elT84 (by decide) rfl h0_0 rfl (Reps.cons (show Ty.rep (tyInt .u8) _ [.int .u8 (IntKind.u8.wrap (a1.S.size : Int))] (IntKind.u8.wrap (a1.S.size : Int)) from rfl) (Reps.nil _ _)) rfl h_27 s q (by decide) rfl rfl rfl fun a w v_28 cs_29 hq_30 s q=>?_
 refine parK_nil (s.pk1.trunc 1) ?_
 refine thenL_nil ?_
 obtain ⟨y_32,h_33,H⟩:=bs H
 refine sl_append_S elT84 underlying9 zeroValue5 hq_30 rfl h_33 s q (by decide) rfl rfl rfl fun a w v_34 cs_35 hq_36 s q=>?_
 refine za q rfl fun a q=>?_
 refine wpList_nil (NoP_nil ?_)
 obtain rfl:=Option.some.inj H
 refine wp_ret ?_
 repeat first | refine zt ?_ | refine zb ?_ | refine zo ?_
 exact ret_1 results101 q (rv_tmp q rfl) ⟨_,rfl,_,_,_,rfl,(s.trunc 1),hRL,hq_36⟩
 rw [ifb_f hb_11] at H
 refine zq<|zr<|zl q (r_ibin q rfl rfl rfl) fun a q=>za q rfl fun a q=>zn ?_
 refine wp_cond_split (q.ev rfl) (fun (hb_38 : (a1.Kind == 3) = true)=>?_) fun hb_38=>?_
 rw [ifb_t hb_38] at H
 refine zq<|zr<|zm q rfl fun a q=>zl q (r_fieldAddr underlying52 rfl sizeOf3 q rfl) fun a q=>zl q (r_load isAgg3 q rfl (s.cell z0 rfl)) fun a q=>zl q (r_conv underlying3 underlying5 q rfl) fun a q=>?_
 refine sl_buildSliceF (zc:=[.int .u8 0]) (ps:=[(0,.int .u8 (IntKind.u8.wrap a1.N))]) (c:=[.int .u8 (IntKind.u8.wrap a1.N)]) [[.int .u8 (IntKind.u8.wrap a1.N)]] underlying84 sizeOf5 zeroValue5 rfl (pc_cons rfl pc_nil) rfl rfl (Nat.le_of_ble_eq_true rfl) rfl (zc zz) rfl s q (by decide) rfl fun a w b_39 s q=>?_
 obtain ⟨y_40,h_41,H⟩:=bs H
 have s:=s.pk2
 refine sl_append_L (ty:=(tyInt .u8)) (ys:=[IntKind.u8.wrap a1.N]) elT84 (by decide) rfl h0_0 rfl (Reps.cons (show Ty.rep (tyInt .u8) _ [.int .u8 (IntKind.u8.wrap a1.N)] (IntKind.u8.wrap a1.N) from rfl) (Reps.nil _ _)) rfl h_41 s q (by decide) rfl rfl rfl fun a w v_42 cs_43 hq_44 s q=>?_
 refine za q rfl fun a q=>zn ?_
 obtain rfl:=Option.some.inj H
 refine wp_ret ?_
 repeat first | refine zt ?_ | refine zb ?_ | refine zo ?_
 exact ret_1 results101 q (rv_tmp q rfl) ⟨_,rfl,_,_,_,rfl,(s.trunc 1),hRL,hq_44⟩
 rw [ifb_f hb_38] at H
 refine wp_skip<|zq<|zq<|zr<|zl q (r_fieldAddr underlying52 rfl sizeOf50 q rfl) fun a q=>zl q (r_loadA (cs:=[I6 a1.H.a0,I6 a1.H.a1,I6 a1.H.a2,I6 a1.H.a3,I6 a1.H.a4,I6 a1.H.a5,I6 a1.H.a6,I6 a1.H.a7]) isAgg50 sizeOf50 rfl q rfl (s.cells_of (m:=8) z0 rfl)) fun a q=>zm q rfl fun a q=>zn ?_
 refine wp_block ?_
 refine wp_loop_k (fun k_l0 a w=>∃ (x_56 : List Int) (x_60 : Int) (R_61 : Hp) (v_57 : Value) (cs_58 : List Value),wire_put.l0 a1 k_l0 x_56 x_60 = some r ∧ RLe M w0 R R_61 ∧ Reps (tyInt .u8) R_61 cs_58 x_56 ∧ Kn 45 a [(0,v_57),(36,.agg #[I6 a1.H.a0,I6 a1.H.a1,I6 a1.H.a2,I6 a1.H.a3,I6 a1.H.a4,I6 a1.H.a5,I6 a1.H.a6,I6 a1.H.a7]),(37,I6 x_60)] ∧ St M w0 w R_61 [.row 5 1 v_57 x_56.length cs_58]) (((8 : Int) - 0).toNat + 1) ?_ ?_
 have s:=s.pk1
 exact ⟨a0,0,_,_,_,H,(RLe.refl _ _),h0_0,q.sub (zc (zc (zc zz))),s.trunc 1⟩
 rintro k_l0 a w ⟨x_56,x_60,R_61,v_57,cs_58,H,hl_62,hq_59,q,s⟩
 rcases k_l0 with _ | k_l0
 cases H
 rw [wire_put.l0.eq_2] at H
 have hRL:=hRL.trans hl_62
 refine zq<|zr<|zl q (r_ibin q rfl rfl rfl) fun a q=>zn<|zq ?_
 refine wp_cond_split (q.ev rfl) (fun (hb_74 : (decide (x_60 < 8)) = true)=>?_) fun hb_74=>?_
 rw [ifb_t hb_74] at H
 refine wp_skip<|zq ?_
 refine wp_block ?_
 refine zq<|zr ?_
 obtain ⟨y_75,h_76,H⟩:=bs H
 refine zl q (r_index_arr underlying50 isAgg3 sizeOf3 (Arr8.ix_lt h_76).1 (Arr8.ix_lt h_76).2 (Arr8.ix_agg h_76) q rfl rfl) fun a q=>za q rfl fun a q=>zn<|zr<|zm q rfl fun a q=>zm q rfl fun a q=>?_
 obtain ⟨y_77,h_78,H⟩:=bs H
 have hS1:=s.sp1
 refine sl_call call129 q (by decide) rfl rfl rfl (wire_big.calls x_56 y_75 8 hS1.lend hq_59 h_78) fun a v_ w hv_ q=>?_
 obtain ⟨R_79,v_82,cs_83,hv_,hr_,hl_80,hq_84⟩:=hv_
 have hv_:=hv_.symm
 subst hv_
 obtain ⟨s,hl_80⟩:=hS1.back hr_ hl_80
 have s:=s.un1
 have hRL:=hRL.trans hl_80
 refine za q rfl fun a q=>zn<|zr<|zl q (r_ibin q rfl rfl rfl) fun a q=>zm q rfl fun a q=>zn ?_
 exact ⟨_,Nat.lt_succ_self _,y_77,(IntKind.i64.wrap (x_60 + 1)),_,_,_,H,(hl_62.trans hl_80),hq_84,q.sub (zc (zc (zc zz))),s⟩
 rw [ifb_f hb_74] at H
 refine wp_exit ?_
 refine zq<|zr<|zm q rfl fun a q=>za q rfl fun a q=>zn ?_
 obtain rfl:=Option.some.inj H
 refine wp_ret ?_
 repeat first | refine zt ?_ | refine zb ?_ | refine zo ?_
 exact ret_1 results101 q (rv_tmp q rfl) ⟨_,rfl,_,_,_,rfl,s,hRL,hq_59⟩
theorem wire_Put.calls (a0 : List Int) (a1 : api_Value) {w0 : World} {R : Hp} {RA : Hp} {v0_0 : Value} (hRA : RA.sub w0) (hR : R.sub w0) (h0_0 : SlR (tyInt .u8) RA v0_0 a0) {r : (List Int) × Int} (H : wire_Put a0 a1 = some r) : Calls prog 80 #[v0_0,.agg ⟨cV a1⟩] w0 (Rets fun v w'=>∃ (R' : Hp) (u0 : Value) (cu0 : List Value),v = .tuple #[u0,I6 r.2] ∧ St [] w0 w' R' [.row 5 1 u0 r.1.length cu0] ∧ RLe [] w0 R R' ∧ Reps (tyInt .u8) R' cu0 r.1):=by
 unfold wire_Put at H
 refine enter (args:=[v0_0,.agg ⟨cV a1⟩]) func80 rfl ntmps80 rfl fun a q=>?_
 have s:=St.init hR
 have hRL:=RLe.refl (M:=[]) w0 R
 refine zq<|zr ?_
 refine sl_box s q (by decide) rfl rfl (c:=(cV a1)) rfl fun a w b_1 s q=>?_
 refine za q rfl fun a q=>za q rfl fun a q=>zn<|zq<|zq<|zr<|zl q (r_loadA (cs:=(cV a1)) isAgg52 sizeOf52 rfl q rfl (s.cells_of (m:=11) z0 rfl)) fun a q=>?_
 obtain ⟨y_2,h_3,H⟩:=bs H
 refine sl_callV call50 s q (by decide) rfl rfl rfl (value_Valid.calls a1 h_3 _) fun a w s q=>?_
 refine zl q (r_un q rfl (u_not _)) fun a q=>zn ?_
 refine wp_cond_split (q.ev rfl) (fun (hb_4 : (!y_2) = true)=>?_) fun hb_4=>?_
 rw [ifb_t hb_4] at H
 refine zq<|zr<|za q rfl fun a q=>za q rfl fun a q=>zn ?_
 have s:=s.row_nil 5 1
 have hq_6 : Reps (tyInt .u8) R [] ([] : List Int):=Reps.nil _ _
 obtain rfl:=Option.some.inj H
 refine wp_ret ?_
 repeat first | refine zt ?_ | refine zb ?_ | refine zo ?_
 exact ret_2 results80 q (rv_tmp q rfl) (rv_tmp q rfl) ⟨_,rfl,_,_,_,rfl,(s.trunc 1),hRL,hq_6⟩
 rw [ifb_f hb_4] at H
 refine wp_skip<|zq ?_
 refine parT_region (C:=fun w=>St [] w0 w R [.cells b_1 (cV a1) 52]) 3 [(0,true),(2,true),(1,false)] mixed (by kernel_rfl) s (fun w s=>s) fun w s=>?_
 refine zp rfl q (fun w s=>r_move q rfl) fun a q=>zp rfl q (fun w s=>r_loadA (cs:=(cV a1)) isAgg52 sizeOf52 rfl q rfl (s.cells_of (m:=11) z0 rfl)) fun a q=>?_
 refine spw (k:=1) rfl rfl s ?_
 obtain ⟨y_23,h_24,H⟩:=bs H
 refine sl_call call102 q (by decide) rfl rfl rfl (slices_Clone_byte_byte.calls a0 (lentOf_sub [] _) s.sub (h0_0.mono (s.raLe0 hRA nil_not)) h_24) fun a v_ w hv_ q=>?_
 obtain ⟨R_25,v_28,cs_29,hv_,hr_,hl_26,hq_30⟩:=hv_
 have hv_:=hv_.symm
 subst hv_
 obtain ⟨s,hl_26⟩:=s.sp0.back hr_ hl_26
 have s:=s.un1
 have hRL:=hRL.trans hl_26
 refine parK_nil ((s.pk1.trunc 1).lower hl_26.le) ?_
 refine thenL_nil ?_
 obtain ⟨y_31,h_32,H⟩:=bs H
 have hS1:=s.sp1
 refine sl_call call101 q (by decide) rfl rfl rfl (wire_put.calls y_23 a1 hS1.lend hq_30 h_32) fun a v_ w hv_ q=>?_
 obtain ⟨R_33,v_36,cs_37,hv_,hr_,hl_34,hq_38⟩:=hv_
 have hv_:=hv_.symm
 subst hv_
 obtain ⟨s,hl_34⟩:=hS1.back hr_ hl_34
 have s:=s.un1
 have hRL:=hRL.trans hl_34
 refine za q rfl fun a q=>za q rfl fun a q=>?_
 refine wpList_nil (NoP_nil ?_)
 obtain rfl:=Option.some.inj H
 refine wp_ret ?_
 repeat first | refine zt ?_ | refine zb ?_ | refine zo ?_
 exact ret_2 results80 q (rv_tmp q rfl) (rv_tmp q rfl) ⟨_,rfl,_,_,_,rfl,(s.trunc 1),hRL,hq_38⟩
theorem group_mark.calls (a0 : List api_Value) {w0 : World} {RA : Hp} {v0_0 : Value} (hRA : RA.sub w0) (h0_0 : SlR ty_api_Value RA v0_0 a0) {r : ByteArray} (H : group_mark a0 = some r) : CallsV prog 57 #[v0_0] w0 (.string r):=by
 unfold group_mark at H
 refine enter (args:=[v0_0]) func57 rfl ntmps57 rfl fun a q=>?_
 have s:=St.init (R:=fun _=>none) (w:=w0) (fun _ _ h=>by cases h)
 have hRL:=RLe.refl (M:=[]) w0 (fun _=>none)
 refine zq<|zr<|za q rfl fun a q=>zn<|zq<|zr<|za q rfl fun a q=>zn<|zq<|zq<|zr<|zm q rfl fun a q=>zl q (r_len_R underlying53 h0_0 q rfl) fun a q=>zm q rfl fun a q=>zn ?_
 refine wp_block ?_
 refine wp_loop_k (fun k_l0 a w=>∃ (x_35 : List Int) (x_39 : Int) (R_40 : Hp) (v_36 : Value) (cs_37 : List Value),group_mark.l0 a0 k_l0 x_35 x_39 = some r ∧ RLe [] w0 (fun _=>none) R_40 ∧ Reps (tyInt .u8) R_40 cs_37 x_35 ∧ Kn 25 a [(3,v_36),(8,v0_0),(9,I6 (a0.length : Int)),(10,I6 x_39)] ∧ St [] w0 w R_40 [.row 5 1 v_36 x_35.length cs_37]) (((a0.length : Int) - 0).toNat + 1) ?_ ?_
 have s:=s.row_nil 5 1
 have hq_71 : Reps (tyInt .u8) (fun _=>none) [] ([] : List Int):=Reps.nil _ _
 exact ⟨[],0,_,_,_,H,(RLe.refl _ _),hq_71,q.sub (zc (zc (zc (zc zz)))),s⟩
 rintro k_l0 a w ⟨x_35,x_39,R_40,v_36,cs_37,H,hl_41,hq_38,q,s⟩
 rcases k_l0 with _ | k_l0
 cases H
 rw [group_mark.l0.eq_2] at H
 have hRL:=hRL.trans hl_41
 refine zq<|zr<|zl q (r_ibin q rfl rfl rfl) fun a q=>zn<|zq ?_
 refine wp_cond_split (q.ev rfl) (fun (hb_72 : (decide (x_39 < (a0.length : Int))) = true)=>?_) fun hb_72=>?_
 rw [ifb_t hb_72] at H
 refine wp_skip<|zq ?_
 refine wp_block ?_
 refine zq<|zr ?_
 obtain ⟨y_73,h_74,H⟩:=bs H
 obtain ⟨b_75,o_76,c_77,cs_78,hv_79,hr_80,hc_81,h_740,h_741⟩:=h0_0.ix h_74
 subst hr_80
 refine zl q (r_indexAddr_R underlying53 sizeOf52 hv_79 h_740 h_741 q rfl rfl) fun a q=>zl q (r_loadA (cs:=(cV y_73)) isAgg52 sizeOf52 rfl q rfl (fun j v hv=>(s.ra hRA nil_not).cell (hc_81 j v hv))) fun a q=>?_
 refine sl_alloc zeroValue52 s q (by decide) rfl rfl fun a w b_82 s q=>?_
 refine sl_storeA (vs:=(cV y_73)) (c':=(cV y_73)) sizeOf52 s q rfl rfl rfl rfl (zc (zc (zc (zc (zc (zc (zc (zc (zc (zc (zc zz))))))))))) (Nat.le_of_ble_eq_true rfl) rfl fun a w s q=>?_
 refine zn<|zq<|zr<|zl q (r_loadA (cs:=(cV y_73)) isAgg52 sizeOf52 rfl q rfl (s.cells_of (m:=11) z0 rfl)) fun a q=>?_
 obtain ⟨y_83,h_84,H⟩:=bs H
 refine sl_call call80 q (by decide) rfl rfl rfl (wire_Put.calls ([] : List Int) y_73 (lentOf_sub [] _) s.sub (SlR.nil (tyInt .u8) _) h_84) fun a v_ w hv_ q=>?_
 obtain ⟨R_85,v_88,cs_89,hv_,hr_,hl_86,hq_90⟩:=hv_
 have hv_:=hv_.symm
 subst hv_
 obtain ⟨s,hl_86⟩:=s.sp0.back hr_ hl_86
 have s:=s.un1
 have hRL:=hRL.trans hl_86
 refine zm q rfl fun a q=>zl q (r_extract q rfl rfl) fun a q=>zl q (r_extract q rfl rfl) fun a q=>za q rfl fun a q=>za q rfl fun a q=>zn<|zr<|zm q rfl fun a q=>zm q rfl fun a q=>?_
 have s:=s.pk2
 have s:=s.pk1
 obtain ⟨R_91,s,hl_93,hs_92⟩:=s.fz_row hq_90 rfl rfl
 have hRL:=hRL.trans hl_93
 obtain ⟨y_94,h_95,H⟩:=bs H
 refine sl_append_R elT84 (by decide) rfl (hq_38.mono (hl_86.le.trans hl_93.le)) rfl hs_92 h_95 s q (by decide) rfl rfl rfl fun a w v_96 cs_97 hq_98 s q=>?_
 refine za q rfl fun a q=>zn<|zr<|zl q (r_ibin q rfl rfl rfl) fun a q=>zm q rfl fun a q=>zn ?_
 exact ⟨_,Nat.lt_succ_self _,y_94,(IntKind.i64.wrap (x_39 + 1)),_,_,_,H,(hl_41.trans (hl_86.trans hl_93)),hq_98,q.sub (zc (zc (zc (zc zz)))),s.trunc 1⟩
 rw [ifb_f hb_72] at H
 refine wp_exit ?_
 refine zq<|zr<|zm q rfl fun a q=>zl q (r_conv_bo underlying84 underlying9 underlying5 hq_38 rfl s z0 q rfl) fun a q=>za q rfl fun a q=>zn ?_
 obtain rfl:=Option.some.inj H
 refine wp_ret ?_
 repeat first | refine zt ?_ | refine zb ?_ | refine zo ?_
 exact ret_1 results57 q (rv_tmp q rfl) ⟨rfl,s.bel⟩
theorem group_together_1_cp.calls (a0 : List api_Value) (a1 : Int) {w0 : World} {RA : Hp} {v0_0 : Value} {b1 : Nat} {o1 : Nat} (hRA : RA.sub w0) (h0_0 : SlR ty_api_Value RA v0_0 a0) (hc1 : ∀ j u,([I6 a1] : List Value)[j]? = some u → RA.cell b1 (o1 + j) = some u) {r : ByteArray} (H : group_together_1_cp a0 a1 = some r) : CallsV prog 56 #[v0_0,.pointer (some ⟨b1,o1,none⟩)] w0 (.string r):=by
 unfold group_together_1_cp at H
 refine enter (args:=[v0_0,.pointer (some ⟨b1,o1,none⟩)]) func56 rfl ntmps56 rfl fun a q=>?_
 have s:=St.init (R:=fun _=>none) (w:=w0) (fun _ _ h=>by cases h)
 have hRL:=RLe.refl (M:=[]) w0 (fun _=>none)
 refine zq<|zr<|za q rfl fun a q=>zn<|zq<|zr<|zm q rfl fun a q=>zl q (r_load isAgg3 q rfl ((s.ra hRA nil_not).cell (hc1 0 _ rfl))) fun a q=>?_
 obtain ⟨y_1,h_2,H⟩:=bs H
 obtain ⟨v_3,hs_4,hr_5⟩:=r_slice_R (x:=.tmp 4) (lo:=none) (hi:=some (.tmp 5)) underlying53 sizeOf52 h0_0 h_2 q rfl rfl ⟨_,rfl⟩
 refine zl q (hr_5 _ _ _ _ _ _ _ q) fun a q=>?_
 obtain ⟨y_6,h_7,H⟩:=bs H
 refine sl_callV call57 s q (by decide) rfl rfl rfl (group_mark.calls y_1 (lentOf_sub [] _) (hs_4.mono (s.raLe0 hRA nil_not)) h_7) fun a w s q=>?_
 refine za q rfl fun a q=>zn ?_
 obtain rfl:=Option.some.inj H
 refine wp_ret ?_
 repeat first | refine zt ?_ | refine zb ?_ | refine zo ?_
 exact ret_1 results56 q (rv_tmp q rfl) ⟨rfl,s.bel⟩
theorem group_bucket_api_Value_f_group_together_1p.calls (a0 : List (List api_Value)) (a1_0 : Int) {w0 : World} {R : Hp} {RA : Hp} {v0_0 : Value} {b1q0 : Nat} {o1q0 : Nat} (hRA : RA.sub w0) (hR : R.sub w0) (h0_0 : SlR (tySl ty_api_Value) R v0_0 a0) (hc1q0 : ∀ j u,([I6 a1_0] : List Value)[j]? = some u → RA.cell b1q0 (o1q0 + j) = some u) {r : List (List (List api_Value))} (H : group_bucket_api_Value_f_group_together_1p a0 a1_0 = some r) : Calls prog 55 #[v0_0,.func (.func 56) #[] #[.pointer (some ⟨b1q0,o1q0,none⟩)]] w0 (Rets fun v w'=>∃ (R' : Hp) (u0 : Value) (cu0 : List Value),v = u0 ∧ St [] w0 w' R' [.row 33 1 u0 r.length cu0] ∧ RLe [] w0 R R' ∧ Reps (tySl (tySl ty_api_Value)) R' cu0 r):=by
 unfold group_bucket_api_Value_f_group_together_1p at H
 refine enter (args:=[v0_0,.func (.func 56) #[] #[.pointer (some ⟨b1q0,o1q0,none⟩)]]) func55 rfl ntmps55 rfl fun a q=>?_
 have s:=St.init hR
 have hRL:=RLe.refl (M:=[]) w0 R
 refine zq<|zr<|za q rfl fun a q=>zn<|zq<|zr ?_
 have s:=s
 refine sl_makeMap s q (by decide) rfl fun a w b_1 s q=>?_
 refine za q rfl fun a q=>zn<|zq<|zr<|za q rfl fun a q=>zn<|zq<|zq<|zr<|zm q rfl fun a q=>zl q (r_len_R underlying33 h0_0 q rfl) fun a q=>zm q rfl fun a q=>zn ?_
 refine wp_block ?_
 refine wp_loop_k (fun k_l0 a w=>∃ (x_75 : List (ByteArray × Int)) (x_77 : List (List (List api_Value))) (x_81 : Int) (v_78 : Value) (E_79 : List RowE),group_bucket_api_Value_f_group_together_1p.l0 a0 a1_0 k_l0 x_75 x_77 x_81 = some r ∧ ORel (tySl ty_api_Value) R E_79 x_77 ∧ Kn 50 a [(1,.func (.func 56) #[] #[.pointer (some ⟨b1q0,o1q0,none⟩)]),(5,.map (some b_1)),(6,v_78),(13,v0_0),(14,I6 (a0.length : Int)),(15,I6 x_81)] ∧ St [] w0 w R (.mp b_1 (kvs Value.string (Value.int .i64) x_75) :: .row 33 1 v_78 x_77.length (hds E_79) :: orows 53 1 E_79)) (((a0.length : Int) - 0).toNat + 1) ?_ ?_
 have s:=s.onil (α:=(List api_Value)) 33 53 1
 have s : St [] w0 w R (.row 33 1 (.slice none 0 0) ([] : List (List (List api_Value))).length (hds ([] : List RowE)) :: .mp b_1 (kvs Value.string (Value.int .i64) ([] : List (ByteArray × Int))) :: orows 53 1 ([] : List RowE)):=s
 have hm_150 : ORel (tySl ty_api_Value) R ([] : List RowE) ([] : List (List (List api_Value))):=ORel.nil
 have s:=s.pk1
 exact ⟨([] : List (ByteArray × Int)),[],0,_,_,H,hm_150,q.sub (zc (zc (zc (zc (zc (zc zz)))))),s⟩
 rintro k_l0 a w ⟨x_75,x_77,x_81,v_78,E_79,H,hm_80,q,s⟩
 rcases k_l0 with _ | k_l0
 cases H
 rw [group_bucket_api_Value_f_group_together_1p.l0.eq_2] at H
 refine zq<|zr<|zl q (r_ibin q rfl rfl rfl) fun a q=>zn<|zq ?_
 refine wp_cond_split (q.ev rfl) (fun (hb_151 : (decide (x_81 < (a0.length : Int))) = true)=>?_) fun hb_151=>?_
 rw [ifb_t hb_151] at H
 refine wp_skip<|zq ?_
 refine wp_block ?_
 refine zq<|zr ?_
 obtain ⟨y_152,h_153,H⟩:=bs H
 obtain ⟨b_154,o_155,c_156,cs_157,hv_158,hr_159,hc_160,h_1530,h_1531⟩:=h0_0.ix h_153
 obtain ⟨v_161,rfl,hs_162⟩:=hr_159
 refine zl q (r_indexAddr_R underlying33 sizeOf53 hv_158 h_1530 h_1531 q rfl rfl) fun a q=>zl q (r_load isAgg53 q rfl (s.sub.cell (hc_160 0 _ rfl))) fun a q=>za q rfl fun a q=>zn<|zq<|zr<|zm q rfl fun a q=>zm q rfl fun a q=>?_
 obtain ⟨y_163,h_164,H⟩:=bs H
 refine sl_callV call56 s q (by decide) rfl rfl rfl (group_together_1_cp.calls y_152 a1_0 (lentOf_sub [] _) (hs_162.mono s.rLe0) (fun j u hu=>Hp.cell_le (s.raLe0 hRA nil_not) (hc1q0 j u hu)) h_164) fun a w s q=>?_
 refine za q rfl fun a q=>zn<|zq<|zr<|zm q rfl fun a q=>zm q rfl fun a q=>zl q (r_lookup_O (m:=x_75) (x:=y_163) (z:=0) underlying111 underlying9 key_str zeroValue3 s z0 rfl q rfl rfl) fun a q=>zm q rfl fun a q=>zl q (r_extract q rfl rfl) fun a q=>zl q (r_extract q rfl rfl) fun a q=>za q rfl fun a q=>za q rfl fun a q=>zn<|zq<|zq<|zr<|zm q rfl fun a q=>zl q (r_un q rfl (u_not _)) fun a q=>zn ?_
 refine wp_mid (fun a w=>∃ (x_173 : List (ByteArray × Int)) (x_175 : List (List (List api_Value))) (x_179 : Int) (v_176 : Value) (E_177 : List RowE),group_bucket_api_Value_f_group_together_1p.j1 (group_bucket_api_Value_f_group_together_1p.l0 a0 a1_0 k_l0) a0 x_81 y_152 x_173 x_175 x_179 = some r ∧ ORel (tySl ty_api_Value) R E_177 x_175 ∧ Kn 50 a [(1,.func (.func 56) #[] #[.pointer (some ⟨b1q0,o1q0,none⟩)]),(5,.map (some b_1)),(6,v_176),(8,v_161),(10,I6 x_179),(13,v0_0),(14,I6 (a0.length : Int)),(15,I6 x_81)] ∧ St [] w0 w R (.mp b_1 (kvs Value.string (Value.int .i64) x_173) :: .row 33 1 v_176 x_175.length (hds E_177) :: orows 53 1 E_177)) ?_ ?_
 refine wp_cond_split (q.ev rfl) (fun (hb_181 : (!((mget x_75 y_163).isSome)) = true)=>?_) fun hb_181=>?_
 rw [ifb_t hb_181] at H
 refine zq<|zr<|zm q rfl fun a q=>zl q (r_len_O underlying88 s z1 q rfl) fun a q=>za q rfl fun a q=>zn<|zq<|zr<|zm q rfl fun a q=>zm q rfl fun a q=>zm q rfl fun a q=>?_
 refine sl_mapUpdate (m:=x_75) (x:=y_163) (y:=(x_77.length : Int)) underlying111 underlying9 key_str s q rfl rfl rfl rfl fun a w s q=>?_
 refine zn<|zr<|zm q rfl fun a q=>?_
 refine sl_buildSliceF (zc:=[.slice none 0 0]) (ps:=[(0,.slice none 0 0)]) (c:=[.slice none 0 0]) [[.slice none 0 0]] underlying88 sizeOf33 zeroValue33 rfl (pc_cons rfl pc_nil) rfl rfl (Nat.le_of_ble_eq_true rfl) rfl (zc zz) rfl s q (by decide) rfl fun a w b_182 s q=>?_
 obtain ⟨y_187,h_188,H⟩:=bs H
 have s:=s.pk2
 refine sl_append_O (O:=[.mp b_1 (kvs Value.string (Value.int .i64) (mset x_75 y_163 (x_77.length : Int)))]) elT88 (by decide) hm_80 h_188 s q (by decide) rfl rfl rfl fun a w v_184 E_185 hm_186 s q=>?_
 have s : St [] w0 w R (.row 33 1 v_184 y_187.length (hds E_185) :: .mp b_1 (kvs Value.string (Value.int .i64) (mset x_75 y_163 (x_77.length : Int))) :: orows 53 1 E_185):=s
 refine za q rfl fun a q=>zn ?_
 have s:=s.pk1
 exact ⟨(mset x_75 y_163 (x_77.length : Int)),y_187,(x_77.length : Int),_,_,H,hm_186,q.sub (zc (zc (zc (zc (zc (zc (zc (zc zz)))))))),s⟩
 rw [ifb_f hb_181] at H
 refine wp_skip ?_
 have s:=s.pk1
 have s:=s.pk1
 exact ⟨x_75,x_77,((mget x_75 y_163).getD 0),_,_,H,hm_80,q.sub (zc (zc (zc (zc (zc (zc (zc (zc zz)))))))),s⟩
 rintro a w ⟨x_173,x_175,x_179,v_176,E_177,H,hm_178,q,s⟩
 unfold group_bucket_api_Value_f_group_together_1p.j1 at H
 refine zr<|zm q rfl fun a q=>zm q rfl fun a q=>zm q rfl fun a q=>zm q rfl fun a q=>?_
 obtain ⟨y_189,h_190,H⟩:=bs H
 obtain ⟨b_191,c_192,e_193,hv_194,hE_195,hc_196,h_1900,h_1901⟩:=s.orow_ix z1 hm_178 h_190
 refine zl q (r_indexAddr_R underlying88 sizeOf33 hv_194 h_1900 h_1901 q rfl rfl) fun a q=>zl q (r_load isAgg33 q rfl (by have h_:=s.row_cell z1 hv_194 hc_196; simpa using h_)) fun a q=>?_
 refine zm q rfl fun a q=>?_
 refine sl_buildSliceF (zc:=[.slice none 0 0]) (ps:=[(0,v_161)]) (c:=[v_161]) [[v_161]] underlying33 sizeOf53 zeroValue53 rfl (pc_cons (cells1 hs_162.one) pc_nil) rfl rfl (Nat.le_of_ble_eq_true rfl) rfl (zc zz) rfl s q (by decide) rfl fun a w b_197 s q=>?_
 obtain ⟨y_200,h_201,H⟩:=bs H
 obtain ⟨s,hq_199⟩:=s.otake (O:=[.cells b_197 [v_161] 53,.mp b_1 (kvs Value.string (Value.int .i64) x_173),.row 33 1 v_176 x_175.length (hds E_177)]) hm_178 hE_195 h_190
 have s : St [] w0 w R (.row 53 1 e_193.v y_189.length e_193.cs :: .cells b_197 [v_161] 53 :: .mp b_1 (kvs Value.string (Value.int .i64) x_173) :: .row 33 1 v_176 x_175.length (hds E_177) :: orows 53 1 (E_177.eraseIdx x_179.toNat)):=s
 refine sl_append_L (ty:=(tySl ty_api_Value)) (ys:=[y_152]) elT33 (by decide) rfl hq_199 rfl (Reps.cons (show Ty.rep (tySl ty_api_Value) _ [v_161] y_152 from ⟨_,rfl,hs_162⟩) (Reps.nil _ _)) rfl h_201 s q (by decide) rfl rfl rfl fun a w v_202 cs_203 hq_204 s q=>?_
 obtain ⟨y_206,h_207,H⟩:=bs H
 obtain ⟨b_208,c_209,e_210,hv_211,hE_212,hc_213,h_2070,h_2071⟩:=s.orow_ix z2 hm_178 h_207
 refine zl q (r_indexAddr_R underlying88 sizeOf33 hv_211 h_2070 h_2071 q rfl rfl) fun a q=>?_
 have s:=s.pk2
 refine sl_store_O (O:=[.mp b_1 (kvs Value.string (Value.int .i64) x_173)]) sizeOf33 hv_211 h_207 hm_178 hq_204 rfl s q rfl rfl rfl fun a w E_215 hm_216 s q=>?_
 have s : St [] w0 w R (.row 33 1 v_176 (upd x_175 x_179 y_200).length (hds E_215) :: .mp b_1 (kvs Value.string (Value.int .i64) x_173) :: orows 53 1 E_215):=s
 refine zn<|zr<|zl q (r_ibin q rfl rfl rfl) fun a q=>zm q rfl fun a q=>zn ?_
 have s:=s.pk1
 exact ⟨_,Nat.lt_succ_self _,x_173,(upd x_175 x_179 y_200),(IntKind.i64.wrap (x_81 + 1)),_,_,H,hm_216,q.sub (zc (zc (zc (zc (zc (zc zz)))))),s⟩
 rw [ifb_f hb_151] at H
 refine wp_exit ?_
 refine zq<|zr<|zm q rfl fun a q=>za q rfl fun a q=>zn ?_
 have s:=s.pk1
 obtain ⟨R_217,s,hl_218,hq_219⟩:=St.ofreeze (O:=[.mp b_1 (kvs Value.string (Value.int .i64) x_75)]) rfl hm_80 s
 have hRL:=hRL.trans hl_218
 obtain rfl:=Option.some.inj H
 refine wp_ret ?_
 repeat first | refine zt ?_ | refine zb ?_ | refine zo ?_
 exact ret_1 results55 q (rv_tmp q rfl) ⟨_,rfl,_,_,_,rfl,(s.trunc 1),hRL,hq_219⟩
theorem slices_Clone_api_Value_api_Value.calls (a0 : List api_Value) {w0 : World} {R : Hp} {RA : Hp} {v0_0 : Value} (hRA : RA.sub w0) (hR : R.sub w0) (h0_0 : SlR ty_api_Value RA v0_0 a0) {r : List api_Value} (H : slices_Clone_api_Value_api_Value a0 = some r) : Calls prog 43 #[v0_0] w0 (Rets fun v w'=>∃ (R' : Hp) (u0 : Value) (cu0 : List Value),v = u0 ∧ St [] w0 w' R' [.row 52 11 u0 r.length cu0] ∧ RLe [] w0 R R' ∧ Reps ty_api_Value R' cu0 r):=by
 unfold slices_Clone_api_Value_api_Value at H
 rcases SlR.nilcase h0_0 with ⟨hn,hx⟩ | ⟨ad_,m_,c_,hn⟩
 subst hx
 have H : some ([] : List api_Value) = some r:=by simpa [apd] using H
 refine enter (args:=[v0_0]) func43 rfl ntmps43 rfl fun a q=>?_
 have s:=St.init hR
 have hRL:=RLe.refl (M:=[]) w0 R
 refine zq<|zr<|za q rfl fun a q=>zn<|zq<|zq<|zr<|zm q rfl fun a q=>zl q (r_sleqN underlying53 hn q rfl rfl) fun a q=>zn ?_
 refine wp_cond_true (q.ev rfl) ?_
 refine zq<|zr<|za q rfl fun a q=>zn ?_
 have s:=s.row_nil 52 11
 have hq_11 : Reps ty_api_Value R [] ([] : List api_Value):=Reps.nil _ _
 obtain rfl:=Option.some.inj H
 refine wp_ret ?_
 repeat first | refine zt ?_ | refine zb ?_ | refine zo ?_
 exact ret_1 results43 q (rv_tmp q rfl) ⟨_,rfl,_,_,_,rfl,s,hRL,hq_11⟩
 refine enter (args:=[v0_0]) func43 rfl ntmps43 rfl fun a q=>?_
 have s:=St.init hR
 have hRL:=RLe.refl (M:=[]) w0 R
 refine zq<|zr<|za q rfl fun a q=>zn<|zq<|zq<|zr<|zm q rfl fun a q=>zl q (r_sleqS underlying53 hn q rfl rfl) fun a q=>zn ?_
 refine wp_cond_false (q.ev rfl) ?_
 refine wp_skip<|zq<|zr ?_
 refine sl_buildSliceC (zc:=[I6 0,I6 0,.string (⟨#[]⟩ : ByteArray),I6 0,I6 0,I6 0,I6 0,I6 0,I6 0,I6 0,I6 0]) (zs:=[]) (ps:=[]) (c:=[]) underlying53 sizeOf52 zeroValue52 rfl pc_nil rfl rfl (by decide) (by kernel_rfl) rfl s q (by decide) rfl fun a w b_1 s q=>?_
 refine zm q rfl fun a q=>?_
 obtain ⟨y_4,h_5,H⟩:=bs H
 have s:=s.row_lit (size:=11) (m:=0) rfl (by decide)
 have hq_3 : Reps ty_api_Value R [] ([] : List api_Value):=(Reps.nil _ _)
 refine sl_append_A elT53 (by decide) rfl (fun _ _ _ _ h=>h) (s.ra hRA nil_not) hq_3 rfl h0_0 h_5 s q (by decide) rfl rfl rfl fun a w v_6 cs_7 hq_8 s q=>?_
 refine za q rfl fun a q=>zn ?_
 obtain rfl:=Option.some.inj H
 refine wp_ret ?_
 repeat first | refine zt ?_ | refine zb ?_ | refine zo ?_
 exact ret_1 results43 q (rv_tmp q rfl) ⟨_,rfl,_,_,_,rfl,s,hRL,hq_8⟩
theorem cmp_isNaN_int.calls (a0 : Int) {r : Bool} (H : cmp_isNaN_int a0 = some r) (w0 : World) : CallsV prog 130 #[I6 a0] w0 (.bool r):=by
 unfold cmp_isNaN_int at H
 refine enter (args:=[I6 a0]) func130 rfl ntmps130 rfl fun a q=>?_
 have s:=St.init (R:=fun _=>none) (w:=w0) (fun _ _ h=>by cases h)
 have hRL:=RLe.refl (M:=[]) w0 (fun _=>none)
 refine zq<|zr<|za q rfl fun a q=>zn<|zq<|zr<|zm q rfl fun a q=>zm q rfl fun a q=>zl q (r_ibin q rfl rfl rfl) fun a q=>za q rfl fun a q=>zn ?_
 obtain rfl:=Option.some.inj H
 refine wp_ret ?_
 repeat first | refine zt ?_ | refine zb ?_ | refine zo ?_
 exact ret_1 results130 q (rv_tmp q rfl) ⟨rfl,s.bel⟩
theorem cmp_Compare_int.calls (a0 : Int) (a1 : Int) {r : Int} (H : cmp_Compare_int a0 a1 = some r) (w0 : World) : CallsV prog 104 #[I6 a0,I6 a1] w0 (I6 r):=by
 unfold cmp_Compare_int at H
 refine enter (args:=[I6 a0,I6 a1]) func104 rfl ntmps104 rfl fun a q=>?_
 have s:=St.init (R:=fun _=>none) (w:=w0) (fun _ _ h=>by cases h)
 have hRL:=RLe.refl (M:=[]) w0 (fun _=>none)
 refine zq<|zr<|za q rfl fun a q=>zn<|zq<|zr<|zm q rfl fun a q=>?_
 obtain ⟨y_1,h_2,H⟩:=bs H
 refine sl_callV call130 s q (by decide) rfl rfl rfl (cmp_isNaN_int.calls a0 h_2 _) fun a w s q=>?_
 refine za q rfl fun a q=>zn<|zq<|zr<|zm q rfl fun a q=>?_
 obtain ⟨y_3,h_4,H⟩:=bs H
 refine sl_callV call130 s q (by decide) rfl rfl rfl (cmp_isNaN_int.calls a1 h_4 _) fun a w s q=>?_
 refine za q rfl fun a q=>zn<|zq<|zq<|zr<|zm q rfl fun a q=>zn ?_
 refine wp_cond_split (q.ev rfl) (fun (hb_5 : y_1 = true)=>?_) fun hb_5=>?_
 rw [ifb_t hb_5] at H
 refine zq<|zq<|zr<|zm q rfl fun a q=>zn ?_
 refine wp_cond_split (q.ev rfl) (fun (hb_6 : y_3 = true)=>?_) fun hb_6=>?_
 rw [ifb_t hb_6] at H
 refine zq<|zr<|za q rfl fun a q=>zn ?_
 obtain rfl:=Option.some.inj H
 refine wp_ret ?_
 repeat first | refine zt ?_ | refine zb ?_ | refine zo ?_
 exact ret_1 results104 q (rv_tmp q rfl) ⟨rfl,s.bel⟩
 rw [ifb_f hb_6] at H
 refine wp_skip<|zq<|zr<|za q rfl fun a q=>zn ?_
 obtain rfl:=Option.some.inj H
 refine wp_ret ?_
 repeat first | refine zt ?_ | refine zb ?_ | refine zo ?_
 exact ret_1 results104 q (rv_tmp q rfl) ⟨rfl,s.bel⟩
 rw [ifb_f hb_5] at H
 refine wp_skip<|zq<|zq<|zr<|zm q rfl fun a q=>zn ?_
 refine wp_cond_split (q.ev rfl) (fun (hb_7 : y_3 = true)=>?_) fun hb_7=>?_
 rw [ifb_t hb_7] at H
 refine zq<|zr<|za q rfl fun a q=>zn ?_
 obtain rfl:=Option.some.inj H
 refine wp_ret ?_
 repeat first | refine zt ?_ | refine zb ?_ | refine zo ?_
 exact ret_1 results104 q (rv_tmp q rfl) ⟨rfl,s.bel⟩
 rw [ifb_f hb_7] at H
 refine wp_skip<|zq<|zq<|zr<|zm q rfl fun a q=>zm q rfl fun a q=>zl q (r_ibin q rfl rfl rfl) fun a q=>zn ?_
 refine wp_cond_split (q.ev rfl) (fun (hb_8 : (decide (a0 < a1)) = true)=>?_) fun hb_8=>?_
 rw [ifb_t hb_8] at H
 refine zq<|zr<|za q rfl fun a q=>zn ?_
 obtain rfl:=Option.some.inj H
 refine wp_ret ?_
 repeat first | refine zt ?_ | refine zb ?_ | refine zo ?_
 exact ret_1 results104 q (rv_tmp q rfl) ⟨rfl,s.bel⟩
 rw [ifb_f hb_8] at H
 refine wp_skip<|zq<|zq<|zr<|zm q rfl fun a q=>zm q rfl fun a q=>zl q (r_ibin q rfl rfl rfl) fun a q=>zn ?_
 refine wp_cond_split (q.ev rfl) (fun (hb_9 : (decide (a0 > a1)) = true)=>?_) fun hb_9=>?_
 rw [ifb_t hb_9] at H
 refine zq<|zr<|za q rfl fun a q=>zn ?_
 obtain rfl:=Option.some.inj H
 refine wp_ret ?_
 repeat first | refine zt ?_ | refine zb ?_ | refine zo ?_
 exact ret_1 results104 q (rv_tmp q rfl) ⟨rfl,s.bel⟩
 rw [ifb_f hb_9] at H
 refine wp_skip<|zq<|zr<|za q rfl fun a q=>zn ?_
 obtain rfl:=Option.some.inj H
 refine wp_ret ?_
 repeat first | refine zt ?_ | refine zb ?_ | refine zo ?_
 exact ret_1 results104 q (rv_tmp q rfl) ⟨rfl,s.bel⟩
theorem internal_bytealg_CompareString.calls (a0 : ByteArray) (a1 : ByteArray) {r : Int} (H : internal_bytealg_CompareString a0 a1 = some r) (w0 : World) : CallsV prog 131 #[.string a0,.string a1] w0 (I6 r):=by
 unfold internal_bytealg_CompareString at H
 refine enter (args:=[.string a0,.string a1]) func131 rfl ntmps131 rfl fun a q=>?_
 have s:=St.init (R:=fun _=>none) (w:=w0) (fun _ _ h=>by cases h)
 have hRL:=RLe.refl (M:=[]) w0 (fun _=>none)
 refine zq<|zr<|za q rfl fun a q=>zn<|zq<|zr<|zm q rfl fun a q=>zm q rfl fun a q=>zl q (r_ext (ext141 a0 a1 _) q rfl rfl) fun a q=>za q rfl fun a q=>zn ?_
 obtain rfl:=Option.some.inj H
 refine wp_ret ?_
 repeat first | refine zt ?_ | refine zb ?_ | refine zo ?_
 exact ret_1 results131 q (rv_tmp q rfl) ⟨rfl,s.bel⟩
theorem strings_Compare.calls (a0 : ByteArray) (a1 : ByteArray) {r : Int} (H : strings_Compare a0 a1 = some r) (w0 : World) : CallsV prog 105 #[.string a0,.string a1] w0 (I6 r):=by
 unfold strings_Compare at H
 refine enter (args:=[.string a0,.string a1]) func105 rfl ntmps105 rfl fun a q=>?_
 have s:=St.init (R:=fun _=>none) (w:=w0) (fun _ _ h=>by cases h)
 have hRL:=RLe.refl (M:=[]) w0 (fun _=>none)
 refine zq<|zr<|za q rfl fun a q=>zn<|zq<|zr<|zm q rfl fun a q=>zm q rfl fun a q=>?_
 obtain ⟨y_1,h_2,H⟩:=bs H
 refine sl_callV call131 s q (by decide) rfl rfl rfl (internal_bytealg_CompareString.calls a0 a1 h_2 _) fun a w s q=>?_
 refine za q rfl fun a q=>zn ?_
 obtain rfl:=Option.some.inj H
 refine wp_ret ?_
 repeat first | refine zt ?_ | refine zb ?_ | refine zo ?_
 exact ret_1 results105 q (rv_tmp q rfl) ⟨rfl,s.bel⟩
theorem slices_Compare_int_int.calls (a0 : List Int) (a1 : List Int) {w0 : World} {RA : Hp} {v0_0 : Value} {v1_0 : Value} (hRA : RA.sub w0) (h0_0 : SlR (tyInt .i64) RA v0_0 a0) (h1_0 : SlR (tyInt .i64) RA v1_0 a1) {r : Int} (H : slices_Compare_int_int a0 a1 = some r) : CallsV prog 106 #[v0_0,v1_0] w0 (I6 r):=by
 unfold slices_Compare_int_int at H
 refine enter (args:=[v0_0,v1_0]) func106 rfl ntmps106 rfl fun a q=>?_
 have s:=St.init (R:=fun _=>none) (w:=w0) (fun _ _ h=>by cases h)
 have hRL:=RLe.refl (M:=[]) w0 (fun _=>none)
 refine zq<|zr<|za q rfl fun a q=>zn<|zq<|zq<|zr<|zm q rfl fun a q=>zl q (r_len_R underlying43 h0_0 q rfl) fun a q=>zm q rfl fun a q=>zn ?_
 refine wp_block ?_
 refine wp_loop_k (fun k_l0 a w=>∃ (x_25 : Int),slices_Compare_int_int.l0 a0 a1 k_l0 x_25 = some r ∧ Kn 36 a [(0,v0_0),(1,v1_0),(9,v0_0),(10,I6 (a0.length : Int)),(11,I6 x_25)] ∧ St [] w0 w (fun _=>none) []) (((a0.length : Int) - 0).toNat + 1) ?_ ?_
 exact ⟨0,H,q.sub (zc (zc (zc (zc (zc zz))))),s⟩
 rintro k_l0 a w ⟨x_25,H,q,s⟩
 rcases k_l0 with _ | k_l0
 cases H
 rw [slices_Compare_int_int.l0.eq_2] at H
 refine zq<|zr<|zl q (r_ibin q rfl rfl rfl) fun a q=>zn<|zq ?_
 refine wp_cond_split (q.ev rfl) (fun (hb_50 : (decide (x_25 < (a0.length : Int))) = true)=>?_) fun hb_50=>?_
 rw [ifb_t hb_50] at H
 refine wp_skip<|zq ?_
 refine wp_block ?_
 refine zq<|zr<|zm q rfl fun a q=>?_
 obtain ⟨y_51,h_52,H⟩:=bs H
 obtain ⟨b_53,o_54,c_55,cs_56,hv_57,hr_58,hc_59,h_520,h_521⟩:=h0_0.ix h_52
 subst hr_58
 refine zl q (r_indexAddr_R underlying43 sizeOf3 hv_57 h_520 h_521 q rfl rfl) fun a q=>zl q (r_load isAgg3 q rfl ((s.ra hRA nil_not).cell (hc_59 0 _ rfl))) fun a q=>za q rfl fun a q=>za q rfl fun a q=>zn<|zq<|zq<|zr<|zm q rfl fun a q=>zm q rfl fun a q=>zl q (r_len_R underlying43 h1_0 q rfl) fun a q=>zl q (r_ibin q rfl rfl rfl) fun a q=>zn ?_
 refine wp_cond_split (q.ev rfl) (fun (hb_60 : (decide (x_25 ≥ (a1.length : Int))) = true)=>?_) fun hb_60=>?_
 rw [ifb_t hb_60] at H
 refine zq<|zr<|za q rfl fun a q=>zn ?_
 obtain rfl:=Option.some.inj H
 refine wp_ret ?_
 repeat first | refine zt ?_ | refine zb ?_ | refine zo ?_
 exact ret_1 results106 q (rv_tmp q rfl) ⟨rfl,s.bel⟩
 rw [ifb_f hb_60] at H
 refine wp_skip<|zq<|zr<|zm q rfl fun a q=>zm q rfl fun a q=>?_
 obtain ⟨y_61,h_62,H⟩:=bs H
 obtain ⟨b_63,o_64,c_65,cs_66,hv_67,hr_68,hc_69,h_620,h_621⟩:=h1_0.ix h_62
 subst hr_68
 refine zl q (r_indexAddr_R underlying43 sizeOf3 hv_67 h_620 h_621 q rfl rfl) fun a q=>zl q (r_load isAgg3 q rfl ((s.ra hRA nil_not).cell (hc_69 0 _ rfl))) fun a q=>za q rfl fun a q=>zn<|zq<|zr<|zm q rfl fun a q=>zm q rfl fun a q=>?_
 obtain ⟨y_70,h_71,H⟩:=bs H
 refine sl_callV call104 s q (by decide) rfl rfl rfl (cmp_Compare_int.calls y_51 y_61 h_71 _) fun a w s q=>?_
 refine za q rfl fun a q=>zn<|zq<|zr<|zm q rfl fun a q=>zl q (r_ibin q rfl rfl rfl) fun a q=>zn ?_
 refine wp_cond_split (q.ev rfl) (fun (hb_72 : (y_70 != 0) = true)=>?_) fun hb_72=>?_
 rw [ifb_t hb_72] at H
 refine zq<|zr<|zm q rfl fun a q=>za q rfl fun a q=>zn ?_
 obtain rfl:=Option.some.inj H
 refine wp_ret ?_
 repeat first | refine zt ?_ | refine zb ?_ | refine zo ?_
 exact ret_1 results106 q (rv_tmp q rfl) ⟨rfl,s.bel⟩
 rw [ifb_f hb_72] at H
 refine wp_skip<|zr<|zl q (r_ibin q rfl rfl rfl) fun a q=>zm q rfl fun a q=>zn ?_
 exact ⟨_,Nat.lt_succ_self _,(IntKind.i64.wrap (x_25 + 1)),H,q.sub (zc (zc (zc (zc (zc zz))))),s⟩
 rw [ifb_f hb_50] at H
 refine wp_exit ?_
 refine zq<|zq<|zr<|zm q rfl fun a q=>zl q (r_len_R underlying43 h0_0 q rfl) fun a q=>zm q rfl fun a q=>zl q (r_len_R underlying43 h1_0 q rfl) fun a q=>zl q (r_ibin q rfl rfl rfl) fun a q=>zn ?_
 refine wp_cond_split (q.ev rfl) (fun (hb_73 : (decide ((a0.length : Int) < (a1.length : Int))) = true)=>?_) fun hb_73=>?_
 rw [ifb_t hb_73] at H
 refine zq<|zr<|za q rfl fun a q=>zn ?_
 obtain rfl:=Option.some.inj H
 refine wp_ret ?_
 repeat first | refine zt ?_ | refine zb ?_ | refine zo ?_
 exact ret_1 results106 q (rv_tmp q rfl) ⟨rfl,s.bel⟩
 rw [ifb_f hb_73] at H
 refine wp_skip<|zq<|zr<|za q rfl fun a q=>zn ?_
 obtain rfl:=Option.some.inj H
 refine wp_ret ?_
 repeat first | refine zt ?_ | refine zb ?_ | refine zo ?_
 exact ret_1 results106 q (rv_tmp q rfl) ⟨rfl,s.bel⟩
theorem cmp_Or_int.calls (a0 : List Int) {w0 : World} {RA : Hp} {v0_0 : Value} (hRA : RA.sub w0) (h0_0 : SlR (tyInt .i64) RA v0_0 a0) {r : Int} (H : cmp_Or_int a0 = some r) : CallsV prog 103 #[v0_0] w0 (I6 r):=by
 unfold cmp_Or_int at H
 refine enter (args:=[v0_0]) func103 rfl ntmps103 rfl fun a q=>?_
 have s:=St.init (R:=fun _=>none) (w:=w0) (fun _ _ h=>by cases h)
 have hRL:=RLe.refl (M:=[]) w0 (fun _=>none)
 refine zq<|zr<|za q rfl fun a q=>zn<|zq<|zr<|za q rfl fun a q=>zn<|zq<|zq<|zr<|zm q rfl fun a q=>zl q (r_len_R underlying43 h0_0 q rfl) fun a q=>zm q rfl fun a q=>zn ?_
 refine wp_block ?_
 refine wp_loop_k (fun k_l0 a w=>∃ (x_13 : Int),cmp_Or_int.l0 a0 k_l0 x_13 = some r ∧ Kn 18 a [(3,I6 0),(6,v0_0),(7,I6 (a0.length : Int)),(8,I6 x_13)] ∧ St [] w0 w (fun _=>none) []) (((a0.length : Int) - 0).toNat + 1) ?_ ?_
 exact ⟨0,H,q.sub (zc (zc (zc (zc zz)))),s⟩
 rintro k_l0 a w ⟨x_13,H,q,s⟩
 rcases k_l0 with _ | k_l0
 cases H
 rw [cmp_Or_int.l0.eq_2] at H
 refine zq<|zr<|zl q (r_ibin q rfl rfl rfl) fun a q=>zn<|zq ?_
 refine wp_cond_split (q.ev rfl) (fun (hb_26 : (decide (x_13 < (a0.length : Int))) = true)=>?_) fun hb_26=>?_
 rw [ifb_t hb_26] at H
 refine wp_skip<|zq ?_
 refine wp_block ?_
 refine zq<|zr ?_
 obtain ⟨y_27,h_28,H⟩:=bs H
 obtain ⟨b_29,o_30,c_31,cs_32,hv_33,hr_34,hc_35,h_280,h_281⟩:=h0_0.ix h_28
 subst hr_34
 refine zl q (r_indexAddr_R underlying43 sizeOf3 hv_33 h_280 h_281 q rfl rfl) fun a q=>zl q (r_load isAgg3 q rfl ((s.ra hRA nil_not).cell (hc_35 0 _ rfl))) fun a q=>za q rfl fun a q=>zn<|zq<|zr<|zm q rfl fun a q=>zm q rfl fun a q=>zl q (r_ibin q rfl rfl rfl) fun a q=>zn ?_
 refine wp_cond_split (q.ev rfl) (fun (hb_36 : (y_27 != 0) = true)=>?_) fun hb_36=>?_
 rw [ifb_t hb_36] at H
 refine zq<|zr<|zm q rfl fun a q=>za q rfl fun a q=>zn ?_
 obtain rfl:=Option.some.inj H
 refine wp_ret ?_
 repeat first | refine zt ?_ | refine zb ?_ | refine zo ?_
 exact ret_1 results103 q (rv_tmp q rfl) ⟨rfl,s.bel⟩
 rw [ifb_f hb_36] at H
 refine wp_skip<|zr<|zl q (r_ibin q rfl rfl rfl) fun a q=>zm q rfl fun a q=>zn ?_
 exact ⟨_,Nat.lt_succ_self _,(IntKind.i64.wrap (x_13 + 1)),H,q.sub (zc (zc (zc (zc zz)))),s⟩
 rw [ifb_f hb_26] at H
 refine wp_exit ?_
 refine zq<|zr<|zm q rfl fun a q=>za q rfl fun a q=>zn ?_
 obtain rfl:=Option.some.inj H
 refine wp_ret ?_
 repeat first | refine zt ?_ | refine zb ?_ | refine zo ?_
 exact ret_1 results103 q (rv_tmp q rfl) ⟨rfl,s.bel⟩
theorem value_Compare.calls (a0 : api_Value) (a1 : api_Value) {r : Int} (H : value_Compare a0 a1 = some r) (w0 : World) : CallsV prog 81 #[.agg ⟨cV a0⟩,.agg ⟨cV a1⟩] w0 (I6 r):=by
 unfold value_Compare at H
 refine enter (args:=[.agg ⟨cV a0⟩,.agg ⟨cV a1⟩]) func81 rfl ntmps81 rfl fun a q=>?_
 have s:=St.init (R:=fun _=>none) (w:=w0) (fun _ _ h=>by cases h)
 have hRL:=RLe.refl (M:=[]) w0 (fun _=>none)
 refine zq<|zr ?_
 refine sl_box s q (by decide) rfl rfl (c:=(cV a0)) rfl fun a w b_1 s q=>?_
 refine sl_box s q (by decide) rfl rfl (c:=(cV a1)) rfl fun a w b_2 s q=>?_
 refine za q rfl fun a q=>zn<|zq ?_
 refine parT_region (C:=fun w=>St [] w0 w (fun _=>none) [.cells b_2 (cV a1) 52,.cells b_1 (cV a0) 52]) 19 [(0,true),(1,true),(2,true),(3,true),(5,true),(6,true),(7,true),(8,true),(10,true),(11,true),(12,true),(13,true),(15,true),(16,true),(17,true),(18,true),(4,false),(9,false),(14,false)] mixed (by kernel_rfl) s (fun w s=>s) fun w s=>?_
 refine zp rfl q (fun w s=>r_fieldAddr underlying52 rfl sizeOf3 q rfl) fun a q=>zp rfl q (fun w s=>r_load isAgg3 q rfl (s.cell z1 rfl)) fun a q=>zp rfl q (fun w s=>r_fieldAddr underlying52 rfl sizeOf3 q rfl) fun a q=>zp rfl q (fun w s=>r_load isAgg3 q rfl (s.cell z0 rfl)) fun a q=>zp rfl q (fun w s=>r_fieldAddr underlying52 rfl sizeOf3 q rfl) fun a q=>zp rfl q (fun w s=>r_load isAgg3 q rfl (s.cell z1 rfl)) fun a q=>zp rfl q (fun w s=>r_fieldAddr underlying52 rfl sizeOf3 q rfl) fun a q=>zp rfl q (fun w s=>r_load isAgg3 q rfl (s.cell z0 rfl)) fun a q=>zp rfl q (fun w s=>r_fieldAddr underlying52 rfl sizeOf9 q rfl) fun a q=>?_
 refine zp rfl q (fun w s=>r_load isAgg9 q rfl (s.cell z1 rfl)) fun a q=>zp rfl q (fun w s=>r_fieldAddr underlying52 rfl sizeOf9 q rfl) fun a q=>zp rfl q (fun w s=>r_load isAgg9 q rfl (s.cell z0 rfl)) fun a q=>zp rfl q (fun w s=>r_fieldAddr underlying52 rfl sizeOf50 q rfl) fun a q=>zp rfl q (fun w s=>r_slice_arr0 underlying50 sizeOf3 q rfl) fun a q=>zp rfl q (fun w s=>r_fieldAddr underlying52 rfl sizeOf50 q rfl) fun a q=>zp rfl q (fun w s=>r_slice_arr0 underlying50 sizeOf3 q rfl) fun a q=>?_
 refine spw (k:=4) rfl rfl s ?_
 obtain ⟨y_14,h_15,H⟩:=bs H
 refine sl_callV call104 s q (by decide) rfl rfl rfl (cmp_Compare_int.calls a0.Kind a1.Kind h_15 _) fun a w s q=>?_
 refine parK_nil s ?_
 refine spw (k:=9) rfl rfl s ?_
 obtain ⟨y_16,h_17,H⟩:=bs H
 refine sl_callV call104 s q (by decide) rfl rfl rfl (cmp_Compare_int.calls a0.N a1.N h_17 _) fun a w s q=>?_
 refine parK_nil s ?_
 refine spw (k:=14) rfl rfl s ?_
 obtain ⟨y_18,h_19,H⟩:=bs H
 refine sl_callV call105 s q (by decide) rfl rfl rfl (strings_Compare.calls a0.S a1.S h_19 _) fun a w s q=>?_
 refine parK_nil s ?_
 refine thenL_nil ?_
 obtain ⟨y_20,h_21,H⟩:=bs H
 refine sl_callV call106 s q (by decide) rfl rfl rfl (slices_Compare_int_int.calls a0.H.list a1.H.list (lentOf_sub [] _) (s.lend_part0 z1 (xs:=a0.H.list) rfl (Nat.le_refl _)) (s.lend_part0 z0 (xs:=a1.H.list) rfl (Nat.le_refl _)) h_21) fun a w s q=>?_
 refine sl_buildSliceF (zc:=[I6 0]) (ps:=[(0,I6 y_14),(1,I6 y_16),(2,I6 y_18),(3,I6 y_20)]) (c:=[I6 y_14,I6 y_16,I6 y_18,I6 y_20]) [[I6 y_14],[I6 y_16],[I6 y_18],[I6 y_20]] underlying43 sizeOf3 zeroValue3 rfl (pc_cons rfl (pc_cons rfl (pc_cons rfl (pc_cons rfl pc_nil)))) rfl rfl (Nat.le_of_ble_eq_true rfl) rfl (zc (zc (zc (zc zz)))) rfl s q (by decide) rfl fun a w b_22 s q=>?_
 obtain ⟨y_23,h_24,H⟩:=bs H
 refine sl_callV call103 s q (by decide) rfl rfl rfl (cmp_Or_int.calls [y_14,y_16,y_18,y_20] (lentOf_sub [] _) (s.lend_lit0 (ty:=(tyInt .i64)) (xs:=[y_14,y_16,y_18,y_20]) z0 (Reps.cons (show Ty.rep (tyInt .i64) _ [I6 y_14] y_14 from rfl) (Reps.cons (show Ty.rep (tyInt .i64) _ [I6 y_16] y_16 from rfl) (Reps.cons (show Ty.rep (tyInt .i64) _ [I6 y_18] y_18 from rfl) (Reps.cons (show Ty.rep (tyInt .i64) _ [I6 y_20] y_20 from rfl) (Reps.nil _ _))))) rfl) h_24) fun a w s q=>?_
 refine za q rfl fun a q=>?_
 refine wpList_nil (NoP_nil ?_)
 obtain rfl:=Option.some.inj H
 refine wp_ret ?_
 repeat first | refine zt ?_ | refine zb ?_ | refine zo ?_
 exact ret_1 results81 q (rv_tmp q rfl) ⟨rfl,s.bel⟩
theorem value_Add.calls (a0 : api_Value) (a1 : api_Value) {r : api_Value × Int} (H : value_Add a0 a1 = some r) (w0 : World) : CallsV prog 82 #[.agg ⟨cV a0⟩,.agg ⟨cV a1⟩] w0 (.tuple #[.agg ⟨cV r.1⟩,I6 r.2]):=by
 unfold value_Add at H
 refine enter (args:=[.agg ⟨cV a0⟩,.agg ⟨cV a1⟩]) func82 rfl ntmps82 rfl fun a q=>?_
 have s:=St.init (R:=fun _=>none) (w:=w0) (fun _ _ h=>by cases h)
 have hRL:=RLe.refl (M:=[]) w0 (fun _=>none)
 refine zq<|zr ?_
 refine sl_box s q (by decide) rfl rfl (c:=(cV a0)) rfl fun a w b_1 s q=>?_
 refine sl_box s q (by decide) rfl rfl (c:=(cV a1)) rfl fun a w b_2 s q=>?_
 refine sl_alloc zeroValue52 s q (by decide) rfl rfl fun a w b_3 s q=>?_
 refine za q rfl fun a q=>zn<|zq<|zq ?_
 refine wp_mid (fun a w=>∃ (x_10 : Bool),value_Add.j0 a0 a1 x_10 = some r ∧ Kn 52 a [(2,.pointer (some ⟨b_1,0,none⟩)),(3,.pointer (some ⟨b_2,0,none⟩)),(4,.pointer (some ⟨b_3,0,none⟩)),(21,.bool x_10)] ∧ St [] w0 w (fun _=>none) [.cells b_1 (cV a0) 52,.cells b_2 (cV a1) 52,.cells b_3 [I6 0,I6 0,.string (⟨#[]⟩ : ByteArray),I6 0,I6 0,I6 0,I6 0,I6 0,I6 0,I6 0,I6 0] 52]) ?_ ?_
 refine zr<|zl q (r_loadA (cs:=(cV a0)) isAgg52 sizeOf52 rfl q rfl (s.cells_of (m:=11) z2 rfl)) fun a q=>?_
 obtain ⟨y_12,h_13,H⟩:=bs H
 refine sl_callV call50 s q (by decide) rfl rfl rfl (value_Valid.calls a0 h_13 _) fun a w s q=>?_
 refine zl q (r_un q rfl (u_not _)) fun a q=>zm q rfl fun a q=>?_
 rcases or_b (!y_12) with hb_14 | hb_14
 rw [ifb_t hb_14] at H
 refine zsw q (wft hb_14) fun a q=>zsw q (wft hb_14) fun a q=>zsw q (wft hb_14) fun a q=>zl q (r_pick_t hb_14 q rfl rfl) fun a q=>zm q rfl fun a q=>zs q fun a q=>zs q fun a q=>zs q fun a q=>zs q fun a q=>zs q fun a q=>zl q (r_pick q rfl rfl rfl) fun a q=>zn ?_
 have s:=s.pk1
 have s:=s.pk2
 exact ⟨true,H,q.sub (zc (zc (zc (zc zz)))),s⟩
 rw [ifb_f hb_14] at H
 refine zw q (wff hb_14) (r_loadA (cs:=(cV a1)) isAgg52 sizeOf52 rfl q rfl (s.cells_of (m:=11) z1 rfl)) fun a q=>?_
 obtain ⟨y_15,h_16,H⟩:=bs H
 refine sl_callV call50 s q (by decide) (wff hb_14) rfl rfl (value_Valid.calls a1 h_16 _) fun a w s q=>?_
 refine zw q (wff hb_14) (r_un q rfl (u_not _)) fun a q=>zl q (r_pick_f hb_14 q rfl rfl) fun a q=>zm q rfl fun a q=>?_
 rcases or_b (!y_15) with hb_17 | hb_17
 rw [ifb_t hb_17] at H
 refine zsw q (wft hb_17) fun a q=>zsw q (wft hb_17) fun a q=>zsw q (wft hb_17) fun a q=>zsw q (wft hb_17) fun a q=>zsw q (wft hb_17) fun a q=>zl q (r_pick_t hb_17 q rfl rfl) fun a q=>zn ?_
 have s:=s.pk1
 have s:=s.pk2
 exact ⟨true,H,q.sub (zc (zc (zc (zc zz)))),s⟩
 rw [ifb_f hb_17] at H
 refine zw q (wff hb_17) (r_fieldAddr underlying52 rfl sizeOf3 q rfl) fun a q=>zw q (wff hb_17) (r_load isAgg3 q rfl (s.cell z2 rfl)) fun a q=>zw q (wff hb_17) (r_fieldAddr underlying52 rfl sizeOf3 q rfl) fun a q=>zw q (wff hb_17) (r_load isAgg3 q rfl (s.cell z1 rfl)) fun a q=>zw q (wff hb_17) (r_ibin q rfl rfl rfl) fun a q=>zl q (r_pick_f hb_17 q rfl rfl) fun a q=>zn ?_
 have s:=s.pk1
 have s:=s.pk2
 exact ⟨(a0.Kind != a1.Kind),H,q.sub (zc (zc (zc (zc zz)))),s⟩
 rintro a w ⟨x_10,H,q,s⟩
 unfold value_Add.j0 at H
 refine wp_cond_split (q.ev rfl) (fun (hb_18 : x_10 = true)=>?_) fun hb_18=>?_
 rw [ifb_t hb_18] at H
 refine zq<|zr<|zl q (r_buildC (ps:=[]) (c:=[I6 0,I6 0,.string (⟨#[]⟩ : ByteArray),I6 0,I6 0,I6 0,I6 0,I6 0,I6 0,I6 0,I6 0]) underlying52 zeroValue52 places52 q rfl pc_nil rfl rfl) fun a q=>?_
 have s:=s.pk2
 refine sl_storeA (vs:=[I6 0,I6 0,.string (⟨#[]⟩ : ByteArray),I6 0,I6 0,I6 0,I6 0,I6 0,I6 0,I6 0,I6 0]) (c':=[I6 0,I6 0,.string (⟨#[]⟩ : ByteArray),I6 0,I6 0,I6 0,I6 0,I6 0,I6 0,I6 0,I6 0]) sizeOf52 s q rfl rfl rfl rfl (zc (zc (zc (zc (zc (zc (zc (zc (zc (zc (zc zz))))))))))) (Nat.le_of_ble_eq_true rfl) rfl fun a w s q=>?_
 refine za q rfl fun a q=>zn ?_
 obtain rfl:=Option.some.inj H
 refine wp_ret ?_
 repeat first | refine zt ?_ | refine zb ?_ | refine zo ?_
 exact ret_2 results82 q (rv_cell (c:=[I6 0,I6 0,.string (⟨#[]⟩ : ByteArray),I6 0,I6 0,I6 0,I6 0,I6 0,I6 0,I6 0,I6 0]) isAgg52 sizeOf52 s z0 rfl q rfl) (rv_tmp q rfl) ⟨rfl,s.bel⟩
 rw [ifb_f hb_18] at H
 refine wp_skip<|zq<|zq<|zr<|zl q (r_fieldAddr underlying52 rfl sizeOf3 q rfl) fun a q=>zl q (r_load isAgg3 q rfl (s.cell z0 rfl)) fun a q=>zn ?_
 refine wp_block ?_
 refine zq<|zr<|zl q (r_ibin q rfl rfl rfl) fun a q=>za q rfl fun a q=>zn ?_
 refine wp_cond_split (q.ev rfl) (fun (hb_19 : (a0.Kind == 1) = true)=>?_) fun hb_19=>?_
 rw [ifb_t hb_19] at H
 refine zq<|zr<|zl q (r_fieldAddr underlying52 rfl sizeOf3 q rfl) fun a q=>zl q (r_load isAgg3 q rfl (s.cell z0 rfl)) fun a q=>zl q (r_fieldAddr underlying52 rfl sizeOf3 q rfl) fun a q=>zl q (r_load isAgg3 q rfl (s.cell z1 rfl)) fun a q=>zl q (r_ibin q rfl rfl rfl) fun a q=>?_
 obtain ⟨y_20,h_21,H⟩:=bs H
 refine sl_callV call34 s q (by decide) rfl rfl rfl (value_OfInt.calls (IntKind.i64.wrap (a0.N + a1.N)) h_21 _) fun a w s q=>?_
 have s:=s.pk2
 refine sl_storeA (vs:=(cV y_20)) (c':=(cV y_20)) sizeOf52 s q rfl rfl rfl rfl (zc (zc (zc (zc (zc (zc (zc (zc (zc (zc (zc zz))))))))))) (Nat.le_of_ble_eq_true rfl) rfl fun a w s q=>?_
 refine za q rfl fun a q=>zn ?_
 obtain rfl:=Option.some.inj H
 refine wp_ret ?_
 repeat first | refine zt ?_ | refine zb ?_ | refine zo ?_
 exact ret_2 results82 q (rv_cell (c:=(cV y_20)) isAgg52 sizeOf52 s z0 rfl q rfl) (rv_tmp q rfl) ⟨rfl,s.bel⟩
 rw [ifb_f hb_19] at H
 refine zq<|zr<|zl q (r_ibin q rfl rfl rfl) fun a q=>za q rfl fun a q=>zn ?_
 refine wp_cond_split (q.ev rfl) (fun (hb_22 : (a0.Kind == 4) = true)=>?_) fun hb_22=>?_
 rw [ifb_t hb_22] at H
 refine zq<|zq<|zr<|zm q rfl fun a q=>zn ?_
 refine wp_block ?_
 refine wp_loop_k (fun k_l1 a w=>∃ (x_24 : Arr8) (x_25 : Int),value_Add.l1 a0 a1 k_l1 x_24 x_25 = some r ∧ Kn 52 a [(2,.pointer (some ⟨b_1,0,none⟩)),(3,.pointer (some ⟨b_2,0,none⟩)),(4,.pointer (some ⟨b_3,0,none⟩)),(35,I6 x_25)] ∧ St [] w0 w (fun _=>none) [.cells b_1 [I6 a0.Kind,I6 a0.N,.string a0.S,I6 x_24.a0,I6 x_24.a1,I6 x_24.a2,I6 x_24.a3,I6 x_24.a4,I6 x_24.a5,I6 x_24.a6,I6 x_24.a7] 52,.cells b_2 (cV a1) 52,.cells b_3 [I6 0,I6 0,.string (⟨#[]⟩ : ByteArray),I6 0,I6 0,I6 0,I6 0,I6 0,I6 0,I6 0,I6 0] 52]) (((8 : Int) - 0).toNat + 1) ?_ ?_
 have s:=s.pk2
 have s:=s.pk2
 have s:=s.pk2
 exact ⟨a0.H,0,H,q.sub (zc (zc (zc (zc zz)))),s⟩
 rintro k_l1 a w ⟨x_24,x_25,H,q,s⟩
 rcases k_l1 with _ | k_l1
 cases H
 rw [value_Add.l1.eq_2] at H
 refine zq<|zr<|zl q (r_ibin q rfl rfl rfl) fun a q=>zn<|zq ?_
 refine wp_cond_split (q.ev rfl) (fun (hb_44 : (decide (x_25 < 8)) = true)=>?_) fun hb_44=>?_
 rw [ifb_t hb_44] at H
 refine wp_skip<|zq ?_
 refine wp_block ?_
 refine zq<|zr<|zm q rfl fun a q=>za q rfl fun a q=>zn ?_
 refine parT_region (C:=fun w=>St [] w0 w (fun _=>none) [.cells b_1 [I6 a0.Kind,I6 a0.N,.string a0.S,I6 x_24.a0,I6 x_24.a1,I6 x_24.a2,I6 x_24.a3,I6 x_24.a4,I6 x_24.a5,I6 x_24.a6,I6 x_24.a7] 52,.cells b_2 (cV a1) 52,.cells b_3 [I6 0,I6 0,.string (⟨#[]⟩ : ByteArray),I6 0,I6 0,I6 0,I6 0,I6 0,I6 0,I6 0,I6 0] 52]) 10 [(0,true),(1,true),(2,true),(3,true),(4,true),(5,true),(6,true),(7,true),(8,true),(9,true)] mixed (by kernel_rfl) s (fun w s=>s) fun w s=>?_
 refine zp rfl q (fun w s=>r_move q rfl) fun a q=>zp rfl q (fun w s=>r_fieldAddr underlying52 rfl sizeOf50 q rfl) fun a q=>?_
 obtain ⟨y_53,h_54,H⟩:=bs H
 refine zp rfl q (fun w s=>r_indexAddr_arr underlying50 sizeOf3 q rfl rfl (Arr8.ix_lt h_54).1 (Arr8.ix_lt h_54).2) fun a q=>zp rfl q (fun w s=>r_load isAgg3 q rfl (s.cell z0 (Arr8.ix_cells h_54 [I6 a0.Kind,I6 a0.N,.string a0.S] [] rfl))) fun a q=>zp rfl q (fun w s=>r_move q rfl) fun a q=>zp rfl q (fun w s=>r_fieldAddr underlying52 rfl sizeOf50 q rfl) fun a q=>?_
 obtain ⟨y_55,h_56,H⟩:=bs H
 refine zp rfl q (fun w s=>r_indexAddr_arr underlying50 sizeOf3 q rfl rfl (Arr8.ix_lt h_56).1 (Arr8.ix_lt h_56).2) fun a q=>zp rfl q (fun w s=>r_load isAgg3 q rfl (s.cell z1 (Arr8.ix_cells h_56 [I6 a1.Kind,I6 a1.N,.string a1.S] [] rfl))) fun a q=>zp rfl q (fun w s=>r_ibin q rfl rfl rfl) fun a q=>zp rfl q (fun w s=>r_fieldAddr underlying52 rfl sizeOf50 q rfl) fun a q=>?_
 refine thenL_nil ?_
 obtain ⟨y_57,h_58,H⟩:=bs H
 refine zl q (r_indexAddr_arr underlying50 sizeOf3 q rfl rfl (Arr8.ix_lt h_58).1 (Arr8.ix_lt h_58).2) fun a q=>?_
 obtain ⟨y_59,h_60,H⟩:=bs H
 refine sl_store1 (c':=[I6 a0.Kind,I6 a0.N,.string a0.S,I6 y_59.a0,I6 y_59.a1,I6 y_59.a2,I6 y_59.a3,I6 y_59.a4,I6 y_59.a5,I6 y_59.a6,I6 y_59.a7]) sizeOf3 s q rfl rfl rfl rfl (Arr8.put_lt h_60 (Nat.le_of_ble_eq_true rfl)) (Arr8.put_cells h_60 [I6 a0.Kind,I6 a0.N,.string a0.S] [] rfl) fun a w s q=>?_
 refine wpList_nil (NoP_nil ?_)
 refine zr<|zl q (r_ibin q rfl rfl rfl) fun a q=>zm q rfl fun a q=>zn ?_
 have s:=s.pk2
 have s:=s.pk2
 have s:=s.pk2
 exact ⟨_,Nat.lt_succ_self _,y_59,(IntKind.i64.wrap (x_25 + 1)),H,q.sub (zc (zc (zc (zc zz)))),s⟩
 rw [ifb_f hb_44] at H
 refine wp_exit ?_
 refine zq<|zr<|zl q (r_loadA (cs:=[I6 a0.Kind,I6 a0.N,.string a0.S,I6 x_24.a0,I6 x_24.a1,I6 x_24.a2,I6 x_24.a3,I6 x_24.a4,I6 x_24.a5,I6 x_24.a6,I6 x_24.a7]) isAgg52 sizeOf52 rfl q rfl (s.cells_of (m:=11) z0 rfl)) fun a q=>?_
 have s:=s.pk2
 refine sl_storeA (vs:=[I6 a0.Kind,I6 a0.N,.string a0.S,I6 x_24.a0,I6 x_24.a1,I6 x_24.a2,I6 x_24.a3,I6 x_24.a4,I6 x_24.a5,I6 x_24.a6,I6 x_24.a7]) (c':=[I6 a0.Kind,I6 a0.N,.string a0.S,I6 x_24.a0,I6 x_24.a1,I6 x_24.a2,I6 x_24.a3,I6 x_24.a4,I6 x_24.a5,I6 x_24.a6,I6 x_24.a7]) sizeOf52 s q rfl rfl rfl rfl (zc (zc (zc (zc (zc (zc (zc (zc (zc (zc (zc zz))))))))))) (Nat.le_of_ble_eq_true rfl) rfl fun a w s q=>?_
 refine za q rfl fun a q=>zn ?_
 obtain rfl:=Option.some.inj H
 refine wp_ret ?_
 repeat first | refine zt ?_ | refine zb ?_ | refine zo ?_
 exact ret_2 results82 q (rv_cell (c:=[I6 a0.Kind,I6 a0.N,.string a0.S,I6 x_24.a0,I6 x_24.a1,I6 x_24.a2,I6 x_24.a3,I6 x_24.a4,I6 x_24.a5,I6 x_24.a6,I6 x_24.a7]) isAgg52 sizeOf52 s z0 rfl q rfl) (rv_tmp q rfl) ⟨rfl,s.bel⟩
 rw [ifb_f hb_22] at H
 refine wp_skip<|zq<|zr<|zl q (r_buildC (ps:=[]) (c:=[I6 0,I6 0,.string (⟨#[]⟩ : ByteArray),I6 0,I6 0,I6 0,I6 0,I6 0,I6 0,I6 0,I6 0]) underlying52 zeroValue52 places52 q rfl pc_nil rfl rfl) fun a q=>?_
 have s:=s.pk2
 refine sl_storeA (vs:=[I6 0,I6 0,.string (⟨#[]⟩ : ByteArray),I6 0,I6 0,I6 0,I6 0,I6 0,I6 0,I6 0,I6 0]) (c':=[I6 0,I6 0,.string (⟨#[]⟩ : ByteArray),I6 0,I6 0,I6 0,I6 0,I6 0,I6 0,I6 0,I6 0]) sizeOf52 s q rfl rfl rfl rfl (zc (zc (zc (zc (zc (zc (zc (zc (zc (zc (zc zz))))))))))) (Nat.le_of_ble_eq_true rfl) rfl fun a w s q=>?_
 refine za q rfl fun a q=>zn ?_
 obtain rfl:=Option.some.inj H
 refine wp_ret ?_
 repeat first | refine zt ?_ | refine zb ?_ | refine zo ?_
 exact ret_2 results82 q (rv_cell (c:=[I6 0,I6 0,.string (⟨#[]⟩ : ByteArray),I6 0,I6 0,I6 0,I6 0,I6 0,I6 0,I6 0,I6 0]) isAgg52 sizeOf52 s z0 rfl q rfl) (rv_tmp q rfl) ⟨rfl,s.bel⟩
theorem group_lay.calls (a0 : Int) (a1 : api_Value) (a2 : api_Value) {r : api_Value} (H : group_lay a0 a1 a2 = some r) (w0 : World) : CallsV prog 58 #[I6 a0,.agg ⟨cV a1⟩,.agg ⟨cV a2⟩] w0 (.agg ⟨cV r⟩):=by
 unfold group_lay at H
 refine enter (args:=[I6 a0,.agg ⟨cV a1⟩,.agg ⟨cV a2⟩]) func58 rfl ntmps58 rfl fun a q=>?_
 have s:=St.init (R:=fun _=>none) (w:=w0) (fun _ _ h=>by cases h)
 have hRL:=RLe.refl (M:=[]) w0 (fun _=>none)
 refine zq<|zr ?_
 refine sl_box s q (by decide) rfl rfl (c:=(cV a1)) rfl fun a w b_1 s q=>?_
 refine sl_box s q (by decide) rfl rfl (c:=(cV a2)) rfl fun a w b_2 s q=>?_
 refine sl_alloc zeroValue52 s q (by decide) rfl rfl fun a w b_3 s q=>?_
 refine zn<|zq<|zr<|zl q (r_loadA (cs:=(cV a1)) isAgg52 sizeOf52 rfl q rfl (s.cells_of (m:=11) z2 rfl)) fun a q=>zl q (r_loadA (cs:=(cV a2)) isAgg52 sizeOf52 rfl q rfl (s.cells_of (m:=11) z1 rfl)) fun a q=>?_
 obtain ⟨y_4,h_5,H⟩:=bs H
 refine sl_callV call81 s q (by decide) rfl rfl rfl (value_Compare.calls a1 a2 h_5 _) fun a w s q=>?_
 refine za q rfl fun a q=>zn<|zq ?_
 refine wp_block ?_
 refine zq<|zq ?_
 refine wp_mid (fun a w=>∃ (x_7 : Bool),group_lay.j0 a0 a1 a2 y_4 x_7 = some r ∧ Kn 42 a [(0,I6 a0),(4,.pointer (some ⟨b_1,0,none⟩)),(5,.pointer (some ⟨b_2,0,none⟩)),(6,.pointer (some ⟨b_3,0,none⟩)),(7,I6 y_4),(13,.bool x_7)] ∧ St [] w0 w (fun _=>none) [.cells b_1 (cV a1) 52,.cells b_2 (cV a2) 52,.cells b_3 [I6 0,I6 0,.string (⟨#[]⟩ : ByteArray),I6 0,I6 0,I6 0,I6 0,I6 0,I6 0,I6 0,I6 0] 52]) ?_ ?_
 refine zr<|zm q rfl fun a q=>zl q (r_ibin q rfl rfl rfl) fun a q=>zm q rfl fun a q=>?_
 rcases or_b (a0 == 3) with hb_9 | hb_9
 rw [ifb_t hb_9] at H
 refine zw q (wtt hb_9) (r_move q rfl) fun a q=>zw q (wtt hb_9) (r_ibin q rfl rfl rfl) fun a q=>zl q (r_pick_t hb_9 q rfl rfl) fun a q=>za q rfl fun a q=>zn ?_
 have s:=s.pk1
 have s:=s.pk2
 exact ⟨(decide (y_4 ≤ 0)),H,q.sub (zc (zc (zc (zc (zc (zc zz)))))),s⟩
 rw [ifb_f hb_9] at H
 refine zsw q (wtf hb_9) fun a q=>zsw q (wtf hb_9) fun a q=>zl q (r_pick_f hb_9 q rfl rfl) fun a q=>za q rfl fun a q=>zn ?_
 have s:=s.pk1
 have s:=s.pk2
 exact ⟨false,H,q.sub (zc (zc (zc (zc (zc (zc zz)))))),s⟩
 rintro a w ⟨x_7,H,q,s⟩
 unfold group_lay.j0 at H
 refine wp_mid (fun a w=>∃ (x_15 : Bool),group_lay.j1 a0 a1 a2 x_15 = some r ∧ Kn 42 a [(0,I6 a0),(4,.pointer (some ⟨b_1,0,none⟩)),(5,.pointer (some ⟨b_2,0,none⟩)),(6,.pointer (some ⟨b_3,0,none⟩)),(13,.bool x_15)] ∧ St [] w0 w (fun _=>none) [.cells b_1 (cV a1) 52,.cells b_2 (cV a2) 52,.cells b_3 [I6 0,I6 0,.string (⟨#[]⟩ : ByteArray),I6 0,I6 0,I6 0,I6 0,I6 0,I6 0,I6 0,I6 0] 52]) ?_ ?_
 refine wp_cond_split (q.ev rfl) (fun (hb_17 : x_7 = true)=>?_) fun hb_17=>?_
 rw [ifb_t hb_17] at H
 refine wp_skip ?_
 have s:=s.pk2
 have s:=s.pk2
 have s:=s.pk2
 exact ⟨x_7,H,q.sub (zc (zc (zc (zc (zc zz))))),s⟩
 rw [ifb_f hb_17] at H
 refine wp_mid (fun a w=>∃ (x_19 : Bool),group_lay.j2 a0 a1 a2 x_19 = some r ∧ Kn 42 a [(0,I6 a0),(4,.pointer (some ⟨b_1,0,none⟩)),(5,.pointer (some ⟨b_2,0,none⟩)),(6,.pointer (some ⟨b_3,0,none⟩)),(13,.bool x_19)] ∧ St [] w0 w (fun _=>none) [.cells b_1 (cV a1) 52,.cells b_2 (cV a2) 52,.cells b_3 [I6 0,I6 0,.string (⟨#[]⟩ : ByteArray),I6 0,I6 0,I6 0,I6 0,I6 0,I6 0,I6 0,I6 0] 52]) ?_ ?_
 refine zr<|zm q rfl fun a q=>zl q (r_ibin q rfl rfl rfl) fun a q=>zm q rfl fun a q=>?_
 rcases or_b (a0 == 4) with hb_21 | hb_21
 rw [ifb_t hb_21] at H
 refine zw q (wtt hb_21) (r_move q rfl) fun a q=>zw q (wtt hb_21) (r_ibin q rfl rfl rfl) fun a q=>zl q (r_pick_t hb_21 q rfl rfl) fun a q=>za q rfl fun a q=>zn ?_
 have s:=s.pk2
 have s:=s.pk2
 have s:=s.pk2
 exact ⟨(decide (y_4 ≥ 0)),H,q.sub (zc (zc (zc (zc (zc zz))))),s⟩
 rw [ifb_f hb_21] at H
 refine zsw q (wtf hb_21) fun a q=>zsw q (wtf hb_21) fun a q=>zl q (r_pick_f hb_21 q rfl rfl) fun a q=>za q rfl fun a q=>zn ?_
 have s:=s.pk2
 have s:=s.pk2
 have s:=s.pk2
 exact ⟨false,H,q.sub (zc (zc (zc (zc (zc zz))))),s⟩
 rintro a w ⟨x_19,H,q,s⟩
 unfold group_lay.j2 at H
 have s:=s.pk2
 have s:=s.pk2
 have s:=s.pk2
 exact ⟨x_19,H,q.sub (zc (zc (zc (zc (zc zz))))),s⟩
 rintro a w ⟨x_15,H,q,s⟩
 unfold group_lay.j1 at H
 refine wp_cond_split (q.ev rfl) (fun (hb_22 : x_15 = true)=>?_) fun hb_22=>?_
 rw [ifb_t hb_22] at H
 refine zq<|zr<|zl q (r_loadA (cs:=(cV a1)) isAgg52 sizeOf52 rfl q rfl (s.cells_of (m:=11) z0 rfl)) fun a q=>?_
 have s:=s.pk2
 refine sl_storeA (vs:=(cV a1)) (c':=(cV a1)) sizeOf52 s q rfl rfl rfl rfl (zc (zc (zc (zc (zc (zc (zc (zc (zc (zc (zc zz))))))))))) (Nat.le_of_ble_eq_true rfl) rfl fun a w s q=>?_
 refine zn ?_
 obtain rfl:=Option.some.inj H
 refine wp_ret ?_
 repeat first | refine zt ?_ | refine zb ?_ | refine zo ?_
 exact ret_1 results58 q (rv_cell (c:=(cV a1)) isAgg52 sizeOf52 s z0 rfl q rfl) ⟨rfl,s.bel⟩
 rw [ifb_f hb_22] at H
 refine zq ?_
 refine wp_mid (fun a w=>∃ (x_24 : Bool),group_lay.j3 a1 a2 x_24 = some r ∧ Kn 42 a [(4,.pointer (some ⟨b_1,0,none⟩)),(5,.pointer (some ⟨b_2,0,none⟩)),(6,.pointer (some ⟨b_3,0,none⟩)),(27,.bool x_24)] ∧ St [] w0 w (fun _=>none) [.cells b_1 (cV a1) 52,.cells b_2 (cV a2) 52,.cells b_3 [I6 0,I6 0,.string (⟨#[]⟩ : ByteArray),I6 0,I6 0,I6 0,I6 0,I6 0,I6 0,I6 0,I6 0] 52]) ?_ ?_
 refine zr<|zm q rfl fun a q=>zl q (r_ibin q rfl rfl rfl) fun a q=>zm q rfl fun a q=>?_
 rcases or_b (a0 == 3) with hb_26 | hb_26
 rw [ifb_t hb_26] at H
 refine zsw q (wft hb_26) fun a q=>zsw q (wft hb_26) fun a q=>zl q (r_pick_t hb_26 q rfl rfl) fun a q=>za q rfl fun a q=>zn ?_
 have s:=s.pk2
 have s:=s.pk2
 have s:=s.pk2
 exact ⟨true,H,q.sub (zc (zc (zc (zc zz)))),s⟩
 rw [ifb_f hb_26] at H
 refine zw q (wff hb_26) (r_move q rfl) fun a q=>zw q (wff hb_26) (r_ibin q rfl rfl rfl) fun a q=>zl q (r_pick_f hb_26 q rfl rfl) fun a q=>za q rfl fun a q=>zn ?_
 have s:=s.pk2
 have s:=s.pk2
 have s:=s.pk2
 exact ⟨(a0 == 4),H,q.sub (zc (zc (zc (zc zz)))),s⟩
 rintro a w ⟨x_24,H,q,s⟩
 unfold group_lay.j3 at H
 refine wp_cond_split (q.ev rfl) (fun (hb_27 : x_24 = true)=>?_) fun hb_27=>?_
 rw [ifb_t hb_27] at H
 refine zq<|zr<|zl q (r_loadA (cs:=(cV a2)) isAgg52 sizeOf52 rfl q rfl (s.cells_of (m:=11) z1 rfl)) fun a q=>?_
 have s:=s.pk2
 refine sl_storeA (vs:=(cV a2)) (c':=(cV a2)) sizeOf52 s q rfl rfl rfl rfl (zc (zc (zc (zc (zc (zc (zc (zc (zc (zc (zc zz))))))))))) (Nat.le_of_ble_eq_true rfl) rfl fun a w s q=>?_
 refine zn ?_
 obtain rfl:=Option.some.inj H
 refine wp_ret ?_
 repeat first | refine zt ?_ | refine zb ?_ | refine zo ?_
 exact ret_1 results58 q (rv_cell (c:=(cV a2)) isAgg52 sizeOf52 s z0 rfl q rfl) ⟨rfl,s.bel⟩
 rw [ifb_f hb_27] at H
 refine wp_skip<|zq<|zr<|zl q (r_loadA (cs:=(cV a1)) isAgg52 sizeOf52 rfl q rfl (s.cells_of (m:=11) z0 rfl)) fun a q=>zl q (r_loadA (cs:=(cV a2)) isAgg52 sizeOf52 rfl q rfl (s.cells_of (m:=11) z1 rfl)) fun a q=>?_
 obtain ⟨y_28,h_29,H⟩:=bs H
 refine sl_callV call82 s q (by decide) rfl rfl rfl (value_Add.calls a1 a2 h_29 _) fun a w s q=>?_
 refine zm q rfl fun a q=>zl q (r_extract q rfl rfl) fun a q=>zl q (r_extract q rfl rfl) fun a q=>?_
 refine sl_alloc zeroValue52 s q (by decide) rfl rfl fun a w b_30 s q=>?_
 refine sl_storeA (vs:=(cV y_28.1)) (c':=(cV y_28.1)) sizeOf52 s q rfl rfl rfl rfl (zc (zc (zc (zc (zc (zc (zc (zc (zc (zc (zc zz))))))))))) (Nat.le_of_ble_eq_true rfl) rfl fun a w s q=>?_
 refine za q rfl fun a q=>zn<|zq<|zr<|zl q (r_loadA (cs:=(cV y_28.1)) isAgg52 sizeOf52 rfl q rfl (s.cells_of (m:=11) z0 rfl)) fun a q=>?_
 have s:=s.pk3
 refine sl_storeA (vs:=(cV y_28.1)) (c':=(cV y_28.1)) sizeOf52 s q rfl rfl rfl rfl (zc (zc (zc (zc (zc (zc (zc (zc (zc (zc (zc zz))))))))))) (Nat.le_of_ble_eq_true rfl) rfl fun a w s q=>?_
 refine zn ?_
 obtain rfl:=Option.some.inj H
 refine wp_ret ?_
 repeat first | refine zt ?_ | refine zb ?_ | refine zo ?_
 exact ret_1 results58 q (rv_cell (c:=(cV y_28.1)) isAgg52 sizeOf52 s z0 rfl q rfl) ⟨rfl,s.bel⟩
theorem slices_CompareFunc_api_Value_api_Value_api_Value_api_Value_f_value_Compare.calls (a0 : List api_Value) (a1 : List api_Value) {w0 : World} {RA : Hp} {v0_0 : Value} {v1_0 : Value} (hRA : RA.sub w0) (h0_0 : SlR ty_api_Value RA v0_0 a0) (h1_0 : SlR ty_api_Value RA v1_0 a1) {r : Int} (H : slices_CompareFunc_api_Value_api_Value_api_Value_api_Value_f_value_Compare a0 a1 = some r) : CallsV prog 87 #[v0_0,v1_0,.func (.func 81) #[] #[]] w0 (I6 r):=by
 unfold slices_CompareFunc_api_Value_api_Value_api_Value_api_Value_f_value_Compare at H
 refine enter (args:=[v0_0,v1_0,.func (.func 81) #[] #[]]) func87 rfl ntmps87 rfl fun a q=>?_
 have s:=St.init (R:=fun _=>none) (w:=w0) (fun _ _ h=>by cases h)
 have hRL:=RLe.refl (M:=[]) w0 (fun _=>none)
 refine zq<|zr<|za q rfl fun a q=>zn<|zq<|zq<|zr<|zm q rfl fun a q=>zl q (r_len_R underlying53 h0_0 q rfl) fun a q=>zm q rfl fun a q=>zn ?_
 refine wp_block ?_
 refine wp_loop_k (fun k_l0 a w=>∃ (x_27 : Int),slices_CompareFunc_api_Value_api_Value_api_Value_api_Value_f_value_Compare.l0 a0 a1 k_l0 x_27 = some r ∧ Kn 39 a [(0,v0_0),(1,v1_0),(2,.func (.func 81) #[] #[]),(11,v0_0),(12,I6 (a0.length : Int)),(13,I6 x_27)] ∧ St [] w0 w (fun _=>none) []) (((a0.length : Int) - 0).toNat + 1) ?_ ?_
 exact ⟨0,H,q.sub (zc (zc (zc (zc (zc (zc zz)))))),s⟩
 rintro k_l0 a w ⟨x_27,H,q,s⟩
 rcases k_l0 with _ | k_l0
 cases H
 rw [slices_CompareFunc_api_Value_api_Value_api_Value_api_Value_f_value_Compare.l0.eq_2] at H
 refine zq<|zr<|zl q (r_ibin q rfl rfl rfl) fun a q=>zn<|zq ?_
 refine wp_cond_split (q.ev rfl) (fun (hb_54 : (decide (x_27 < (a0.length : Int))) = true)=>?_) fun hb_54=>?_
 rw [ifb_t hb_54] at H
 refine wp_skip<|zq ?_
 refine wp_block ?_
 refine zq<|zr<|zm q rfl fun a q=>?_
 obtain ⟨y_55,h_56,H⟩:=bs H
 obtain ⟨b_57,o_58,c_59,cs_60,hv_61,hr_62,hc_63,h_560,h_561⟩:=h0_0.ix h_56
 subst hr_62
 refine zl q (r_indexAddr_R underlying53 sizeOf52 hv_61 h_560 h_561 q rfl rfl) fun a q=>zl q (r_loadA (cs:=(cV y_55)) isAgg52 sizeOf52 rfl q rfl (fun j v hv=>(s.ra hRA nil_not).cell (hc_63 j v hv))) fun a q=>?_
 refine sl_alloc zeroValue52 s q (by decide) rfl rfl fun a w b_64 s q=>?_
 refine za q rfl fun a q=>?_
 refine sl_storeA (vs:=(cV y_55)) (c':=(cV y_55)) sizeOf52 s q rfl rfl rfl rfl (zc (zc (zc (zc (zc (zc (zc (zc (zc (zc (zc zz))))))))))) (Nat.le_of_ble_eq_true rfl) rfl fun a w s q=>?_
 refine zn<|zq<|zq<|zr<|zm q rfl fun a q=>zm q rfl fun a q=>zl q (r_len_R underlying53 h1_0 q rfl) fun a q=>zl q (r_ibin q rfl rfl rfl) fun a q=>zn ?_
 refine wp_cond_split (q.ev rfl) (fun (hb_65 : (decide (x_27 ≥ (a1.length : Int))) = true)=>?_) fun hb_65=>?_
 rw [ifb_t hb_65] at H
 refine zq<|zr<|za q rfl fun a q=>zn ?_
 obtain rfl:=Option.some.inj H
 refine wp_ret ?_
 repeat first | refine zt ?_ | refine zb ?_ | refine zo ?_
 exact ret_1 results87 q (rv_tmp q rfl) ⟨rfl,s.bel⟩
 rw [ifb_f hb_65] at H
 refine wp_skip<|zq<|zr<|zm q rfl fun a q=>zm q rfl fun a q=>?_
 obtain ⟨y_66,h_67,H⟩:=bs H
 obtain ⟨b_68,o_69,c_70,cs_71,hv_72,hr_73,hc_74,h_670,h_671⟩:=h1_0.ix h_67
 subst hr_73
 refine zl q (r_indexAddr_R underlying53 sizeOf52 hv_72 h_670 h_671 q rfl rfl) fun a q=>zl q (r_loadA (cs:=(cV y_66)) isAgg52 sizeOf52 rfl q rfl (fun j v hv=>(s.ra hRA nil_not).cell (hc_74 j v hv))) fun a q=>?_
 refine sl_alloc zeroValue52 s q (by decide) rfl rfl fun a w b_75 s q=>?_
 refine sl_storeA (vs:=(cV y_66)) (c':=(cV y_66)) sizeOf52 s q rfl rfl rfl rfl (zc (zc (zc (zc (zc (zc (zc (zc (zc (zc (zc zz))))))))))) (Nat.le_of_ble_eq_true rfl) rfl fun a w s q=>?_
 refine zn<|zq<|zr<|zm q rfl fun a q=>zl q (r_loadA (cs:=(cV y_55)) isAgg52 sizeOf52 rfl q rfl (s.cells_of (m:=11) z1 rfl)) fun a q=>zl q (r_loadA (cs:=(cV y_66)) isAgg52 sizeOf52 rfl q rfl (s.cells_of (m:=11) z0 rfl)) fun a q=>?_
 obtain ⟨y_76,h_77,H⟩:=bs H
 refine sl_callV call81 s q (by decide) rfl rfl rfl (value_Compare.calls y_55 y_66 h_77 _) fun a w s q=>?_
 refine za q rfl fun a q=>zn<|zq<|zr<|zm q rfl fun a q=>zl q (r_ibin q rfl rfl rfl) fun a q=>zn ?_
 refine wp_cond_split (q.ev rfl) (fun (hb_78 : (y_76 != 0) = true)=>?_) fun hb_78=>?_
 rw [ifb_t hb_78] at H
 refine zq<|zr<|zm q rfl fun a q=>za q rfl fun a q=>zn ?_
 obtain rfl:=Option.some.inj H
 refine wp_ret ?_
 repeat first | refine zt ?_ | refine zb ?_ | refine zo ?_
 exact ret_1 results87 q (rv_tmp q rfl) ⟨rfl,s.bel⟩
 rw [ifb_f hb_78] at H
 refine wp_skip<|zr<|zl q (r_ibin q rfl rfl rfl) fun a q=>zm q rfl fun a q=>zn ?_
 exact ⟨_,Nat.lt_succ_self _,(IntKind.i64.wrap (x_27 + 1)),H,q.sub (zc (zc (zc (zc (zc (zc zz)))))),s.trunc 0⟩
 rw [ifb_f hb_54] at H
 refine wp_exit ?_
 refine zq<|zq<|zr<|zm q rfl fun a q=>zl q (r_len_R underlying53 h0_0 q rfl) fun a q=>zm q rfl fun a q=>zl q (r_len_R underlying53 h1_0 q rfl) fun a q=>zl q (r_ibin q rfl rfl rfl) fun a q=>zn ?_
 refine wp_cond_split (q.ev rfl) (fun (hb_79 : (decide ((a0.length : Int) < (a1.length : Int))) = true)=>?_) fun hb_79=>?_
 rw [ifb_t hb_79] at H
 refine zq<|zr<|za q rfl fun a q=>zn ?_
 obtain rfl:=Option.some.inj H
 refine wp_ret ?_
 repeat first | refine zt ?_ | refine zb ?_ | refine zo ?_
 exact ret_1 results87 q (rv_tmp q rfl) ⟨rfl,s.bel⟩
 rw [ifb_f hb_79] at H
 refine wp_skip<|zq<|zr<|za q rfl fun a q=>zn ?_
 obtain rfl:=Option.some.inj H
 refine wp_ret ?_
 repeat first | refine zt ?_ | refine zb ?_ | refine zo ?_
 exact ret_1 results87 q (rv_tmp q rfl) ⟨rfl,s.bel⟩
theorem table_order.calls (a0 : List api_Value) (a1 : List api_Value) {w0 : World} {RA : Hp} {v0_0 : Value} {v1_0 : Value} (hRA : RA.sub w0) (h0_0 : SlR ty_api_Value RA v0_0 a0) (h1_0 : SlR ty_api_Value RA v1_0 a1) {r : Int} (H : table_order a0 a1 = some r) : CallsV prog 65 #[v0_0,v1_0] w0 (I6 r):=by
 unfold table_order at H
 refine enter (args:=[v0_0,v1_0]) func65 rfl ntmps65 rfl fun a q=>?_
 have s:=St.init (R:=fun _=>none) (w:=w0) (fun _ _ h=>by cases h)
 have hRL:=RLe.refl (M:=[]) w0 (fun _=>none)
 refine zq<|zr<|za q rfl fun a q=>zn<|zq<|zr<|zm q rfl fun a q=>zm q rfl fun a q=>?_
 obtain ⟨y_1,h_2,H⟩:=bs H
 refine sl_callV call87 s q (by decide) rfl rfl rfl (slices_CompareFunc_api_Value_api_Value_api_Value_api_Value_f_value_Compare.calls a0 a1 (lentOf_sub [] _) (h0_0.mono (s.raLe0 hRA nil_not)) (h1_0.mono (s.raLe0 hRA nil_not)) h_2) fun a w s q=>?_
 refine za q rfl fun a q=>zn ?_
 obtain rfl:=Option.some.inj H
 refine wp_ret ?_
 repeat first | refine zt ?_ | refine zb ?_ | refine zo ?_
 exact ret_1 results65 q (rv_tmp q rfl) ⟨rfl,s.bel⟩
set_option maxHeartbeats 4000000 in
set_option maxRecDepth 100000 in
theorem slices_SortFunc_api_Value_api_Value_f_table_order.calls (a0 : List (List api_Value)) {w0 : World} {R : Hp} {M : List Own} {v0 : Value} {cs0 : List Value} (hS0 : St M w0 w0 R [.row 53 1 v0 a0.length cs0]) (h0 : Reps (tySl ty_api_Value) R cs0 a0) {r : List (List api_Value)} (H : slices_SortFunc_api_Value_api_Value_f_table_order a0 = some r) :
    Calls Tryz.prog 64 #[v0, .func (.func 65) #[] #[]] w0 (Rets fun v w' => ∃ (R' : Hp) (cu0 : List Value), v = .tuple #[] ∧ St M w0 w' R' [.row 53 1 v0 r.length cu0] ∧ RLe M w0 R R' ∧ Reps (tySl ty_api_Value) R' cu0 r ∧ cu0.Perm cs0) := by
  unfold slices_SortFunc_api_Value_api_Value_f_table_order at H
  exact sort_calls sortL64 (ty := (tySl ty_api_Value)) rfl Tryz.call65 hS0 h0 (fun w hsub u1 u2 x y i hx hy hi => by
    obtain ⟨v1, e1, s1⟩ := hx
    obtain ⟨v2, e2, s2⟩ := hy
    cases e1; cases e2
    exact table_order.calls x y hsub s1 s2 hi) H
theorem table_Canon.calls (a0 : api_Table) {w0 : World} {R : Hp} {RA : Hp} {v0_0 : Value} {v0_1 : Value} (hRA : RA.sub w0) (hR : R.sub w0) (h0_0 : SlR ty_api_Col RA v0_0 a0.Cols) (h0_1 : SlR (tySl ty_api_Value) RA v0_1 a0.Rows) {r : api_Table} (H : table_Canon a0 = some r) : Calls prog 45 #[.agg #[v0_0,v0_1]] w0 (Rets fun v w'=>∃ (R' : Hp) (u0 : Value) (cu0 : List Value) (u1 : Value) (cu1 : List Value),v = .agg #[u0,u1] ∧ St [] w0 w' R' [.row 47 2 u0 r.Cols.length cu0,.row 53 1 u1 r.Rows.length cu1] ∧ RLe [] w0 R R' ∧ Reps ty_api_Col R' cu0 r.Cols ∧ Reps (tySl ty_api_Value) R' cu1 r.Rows ∧ Apart R R' cu1):=by
 unfold table_Canon at H
 refine enter (args:=[.agg #[v0_0,v0_1]]) func45 rfl ntmps45 rfl fun a q=>?_
 have s:=St.init hR
 have hRL:=RLe.refl (M:=[]) w0 R
 refine zq<|zr ?_
 refine sl_box s q (by decide) rfl rfl (c:=[v0_0,v0_1]) rfl fun a w b_1 s q=>?_
 refine sl_alloc zeroValue35 s q (by decide) rfl rfl fun a w b_2 s q=>?_
 refine zn<|zq<|zr<|zl q (r_fieldAddr underlying35 rfl sizeOf22 q rfl) fun a q=>zl q (r_load isAgg22 q rfl (s.cell z1 rfl)) fun a q=>?_
 obtain ⟨y_3,h_4,H⟩:=bs H
 refine sl_call call26 q (by decide) rfl rfl rfl (slices_Clone_api_Col_api_Col.calls a0.Cols (lentOf_sub [] _) s.sub (h0_0.mono (s.raLe0 hRA nil_not)) h_4) fun a v_ w hv_ q=>?_
 obtain ⟨R_5,v_8,cs_9,hv_,hr_,hl_6,hq_10⟩:=hv_
 have hv_:=hv_.symm
 subst hv_
 obtain ⟨s,hl_6⟩:=s.sp0.back hr_ hl_6
 have s:=s.un1
 have hRL:=hRL.trans hl_6
 have ho_11:=s.row_one z0
 refine zl q (r_buildC (ps:=[(0,v_8)]) (c:=[v_8,.slice none 0 0]) underlying35 zeroValue35 places35 q rfl (pc_cons (cells1 ho_11) pc_nil) rfl rfl) fun a q=>?_
 refine sl_alloc zeroValue35 s q (by decide) rfl rfl fun a w b_12 s q=>?_
 refine sl_storeA (vs:=[v_8,.slice none 0 0]) (c':=[v_8,.slice none 0 0]) sizeOf35 s q rfl rfl rfl rfl (all_cons (s.row_one z1) (zc zz)) (Nat.le_of_ble_eq_true rfl) rfl fun a w s q=>?_
 refine zn<|zq<|zq<|zr<|zl q (r_fieldAddr underlying35 rfl sizeOf33 q rfl) fun a q=>zl q (r_load isAgg33 q rfl (s.cell z3 rfl)) fun a q=>zl q (r_len_R underlying33 h0_1 q rfl) fun a q=>zm q rfl fun a q=>zn ?_
 refine wp_block ?_
 refine wp_loop_k (fun k_l0 a w=>∃ (x_79 : List (List api_Value)) (x_84 : Int) (R_85 : Hp) (v_80 : Value) (cs_81 : List Value),table_Canon.l0 a0 y_3 k_l0 x_79 x_84 = some r ∧ RLe [] w0 R_5 R_85 ∧ Reps (tySl ty_api_Value) R_85 cs_81 x_79 ∧ Apart R R_85 cs_81 ∧ Kn 29 a [(2,.pointer (some ⟨b_2,0,none⟩)),(3,.pointer (some ⟨b_12,0,none⟩)),(11,v0_1),(12,I6 (a0.Rows.length : Int)),(13,I6 x_84)] ∧ St [] w0 w R_85 [.cells b_2 [.slice none 0 0,.slice none 0 0] 35,.row 47 2 v_8 y_3.length cs_9,.row 53 1 v_80 x_79.length cs_81,.cells b_12 [v_8,v_80] 35]) (((a0.Rows.length : Int) - 0).toNat + 1) ?_ ?_
 have s:=s.row_nil 53 1
 have hq_144 : Reps (tySl ty_api_Value) R_5 [] ([] : List (List api_Value)):=Reps.nil _ _
 have s:=s.pk1
 have s:=s.pk1
 have s:=s.pk2
 have s:=s.pk3
 exact ⟨[],0,_,_,_,H,(RLe.refl _ _),hq_144,(Apart.nil _ _),q.sub (zc (zc (zc (zc (zc zz))))),s.trunc 4⟩
 rintro k_l0 a w ⟨x_79,x_84,R_85,v_80,cs_81,H,hl_86,hq_82,hap_83,q,s⟩
 rcases k_l0 with _ | k_l0
 cases H
 rw [table_Canon.l0.eq_2] at H
 have hRL:=hRL.trans hl_86
 refine zq<|zr<|zl q (r_ibin q rfl rfl rfl) fun a q=>zn<|zq ?_
 refine wp_cond_split (q.ev rfl) (fun (hb_145 : (decide (x_84 < (a0.Rows.length : Int))) = true)=>?_) fun hb_145=>?_
 rw [ifb_t hb_145] at H
 refine wp_skip<|zq ?_
 refine wp_block ?_
 refine zq<|zr ?_
 obtain ⟨y_146,h_147,H⟩:=bs H
 obtain ⟨b_148,o_149,c_150,cs_151,hv_152,hr_153,hc_154,h_1470,h_1471⟩:=h0_1.ix h_147
 obtain ⟨v_155,rfl,hs_156⟩:=hr_153
 refine zl q (r_indexAddr_R underlying33 sizeOf53 hv_152 h_1470 h_1471 q rfl rfl) fun a q=>zl q (r_load isAgg53 q rfl ((s.ra hRA nil_not).cell (hc_154 0 _ rfl))) fun a q=>za q rfl fun a q=>zn ?_
 refine parT_region (C:=fun w=>St [] w0 w R_85 [.cells b_2 [.slice none 0 0,.slice none 0 0] 35,.row 47 2 v_8 y_3.length cs_9,.row 53 1 v_80 x_79.length cs_81,.cells b_12 [v_8,v_80] 35]) 5 [(0,true),(1,true),(2,true),(3,false),(4,false)] mixed (by kernel_rfl) s (fun w s=>s) fun w s=>?_
 refine zp rfl q (fun w s=>r_fieldAddr underlying35 rfl sizeOf33 q rfl) fun a q=>zp rfl q (fun w s=>r_load isAgg33 q rfl (s.cell z3 rfl)) fun a q=>zp rfl q (fun w s=>r_move q rfl) fun a q=>?_
 refine spw (k:=3) rfl rfl s ?_
 obtain ⟨y_179,h_180,H⟩:=bs H
 refine sl_call call43 q (by decide) rfl rfl rfl (slices_Clone_api_Value_api_Value.calls y_146 (lentOf_sub [] _) s.sub (hs_156.mono (s.raLe0 hRA nil_not)) h_180) fun a v_ w hv_ q=>?_
 obtain ⟨R_181,v_184,cs_185,hv_,hr_,hl_182,hq_186⟩:=hv_
 have hv_:=hv_.symm
 subst hv_
 obtain ⟨s,hl_182⟩:=s.sp0.back hr_ hl_182
 have s:=s.un1
 have hRL:=hRL.trans hl_182
 refine parK_nil ((s.pk4.pk4.pk4.pk4.trunc 4).lower hl_182.le) ?_
 refine spw (k:=4) rfl rfl ((s.pk4.pk4.pk4.pk4.trunc 4).lower hl_182.le) ?_
 have ho_187:=s.row_one z0
 refine sl_buildSliceF (zc:=[.slice none 0 0]) (ps:=[(0,v_184)]) (c:=[v_184]) [[v_184]] underlying33 sizeOf53 zeroValue53 rfl (pc_cons (cells1 ho_187) pc_nil) rfl rfl (Nat.le_of_ble_eq_true rfl) rfl (zc zz) rfl s q (by decide) rfl fun a w b_188 s q=>?_
 refine parK_nil ((s.pk5.pk5.pk5.pk5.trunc 4).lower hl_182.le) ?_
 refine thenL_nil ?_
 have s:=s.pk4
 have s:=s.pk2
 obtain ⟨R_189,s,hl_191,hs_190,hn_192⟩:=s.fz_rowN hq_186 rfl rfl
 have hRL:=hRL.trans hl_191
 obtain ⟨y_193,h_194,H⟩:=bs H
 refine sl_append_LA (ty:=(tySl ty_api_Value)) (ys:=[y_179]) elT33 (by decide) rfl (hq_82.mono (hl_182.le.trans hl_191.le)) rfl (Reps.cons (show Ty.rep (tySl ty_api_Value) _ [v_184] y_179 from ⟨_,rfl,hs_190⟩) (Reps.nil _ _)) rfl h_194 s q (by decide) rfl rfl rfl fun a w v_195 cs_196 hcq_199 hq_197 s q=>?_
 have hap_200 : Apart R R_189 cs_196:=by rw [hcq_199]; exact (Apart.app (hap_83.mono hl_182.le) (hl_6.le.trans (hl_86.le.trans hl_182.le)) hl_191.le hn_192)
 refine zl q (r_fieldAddr underlying35 rfl sizeOf33 q rfl) fun a q=>?_
 have s:=s.pk3
 refine sl_store1 (c':=[v_8,v_195]) sizeOf33 s q rfl rfl rfl (s.row_one z1) (Nat.le_of_ble_eq_true rfl) rfl fun a w s q=>?_
 refine wpList_nil (NoP_nil ?_)
 refine zr<|zl q (r_ibin q rfl rfl rfl) fun a q=>zm q rfl fun a q=>zn ?_
 have s:=s.pk1
 have s:=s.pk3
 have s:=s.pk3
 exact ⟨_,Nat.lt_succ_self _,y_193,(IntKind.i64.wrap (x_84 + 1)),_,_,_,H,(hl_86.trans (hl_182.trans hl_191)),hq_197,hap_200,q.sub (zc (zc (zc (zc (zc zz))))),s⟩
 rw [ifb_f hb_145] at H
 refine wp_exit ?_
 refine zq<|zr<|zl q (r_fieldAddr underlying35 rfl sizeOf33 q rfl) fun a q=>zl q (r_load isAgg33 q rfl (s.cell z3 rfl)) fun a q=>?_
 obtain ⟨y_201,h_202,H⟩:=bs H
 have s:=s.pk2
 have hS1:=s.sp1
 refine sl_call call64 q (by decide) rfl rfl rfl (slices_SortFunc_api_Value_api_Value_f_table_order.calls x_79 hS1.lend hq_82 h_202) fun a v_ w hv_ q=>?_
 obtain ⟨R_203,cs_206,hv_,hr_,hl_204,hq_207,hp_208⟩:=hv_
 have hv_:=hv_.symm
 subst hv_
 obtain ⟨s,hl_204⟩:=hS1.back hr_ hl_204
 have s:=s.un1
 have hRL:=hRL.trans hl_204
 refine zn<|zq<|zr<|zl q (r_loadA (cs:=[v_8,v_80]) isAgg35 sizeOf35 rfl q rfl (s.cells_of (m:=2) z3 rfl)) fun a q=>?_
 have s:=s.pk1
 refine sl_storeA (vs:=[v_8,v_80]) (c':=[v_8,v_80]) sizeOf35 s q rfl rfl rfl rfl (all_cons (s.row_one z2) (all_cons (s.row_one z1) zz)) (Nat.le_of_ble_eq_true rfl) rfl fun a w s q=>?_
 refine zn ?_
 obtain rfl:=Option.some.inj H
 refine wp_ret ?_
 repeat first | refine zt ?_ | refine zb ?_ | refine zo ?_
 exact ret_1 results45 q (rv_cell (c:=[v_8,v_80]) isAgg35 sizeOf35 s z0 rfl q rfl) ⟨_,rfl,_,_,_,_,_,rfl,(s.pk1.pk2.trunc 2),hRL,(hq_10.mono (hl_86.le.trans hl_204.le)),hq_207,((Apart.perm hap_83 hp_208).mono hl_204.le)⟩
end Go.Proofs.YtonfglmfdhljnaaGreatDoor.M
end
section
namespace Go.Proofs.YtonfglmfdhljnaaGreatDoor.M
open Go Go.Eng Go.Proofs Go.RowKit
set_option linter.unusedVariables false
set_option linter.unusedSimpArgs false
open Go.Proofs.Tryz
set_option maxHeartbeats 4000000
set_option maxRecDepth 100000
end Go.Proofs.YtonfglmfdhljnaaGreatDoor.M
end
