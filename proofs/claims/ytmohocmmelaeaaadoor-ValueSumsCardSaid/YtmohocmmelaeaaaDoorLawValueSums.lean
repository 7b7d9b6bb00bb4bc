/- The law ValueSums holds: for every input the call answers true, and each argument reads as it did. No condition. -/
import Derived.HandedShaped
import Derived.Shelf.Vars
import Derived.Lay
import Derived.LaidMore
import Derived.Stop.Joined
import Derived.Test.YtmohocmmelaeaaaDoorEngW
import Derived.SevenTiedAt
import Derived.Test.YtmohocmmelaeaaaDoorTie
import Derived.Test.YtmohocmmelaeaaaDoorCards
import Derived.Test.YtmohocmmelaeaaaDoorRows
import Derived.Test.YtmohocmmelaeaaaDoorWalkValueSums
import Derived.Test.YtmohocmmelaeaaaDoorOpn
import Derived.Test.YtmohocmmelaeaaaDoorPL01v
import Derived.Test.YtmohocmmelaeaaaDoorPL01
import Derived.Test.YtmohocmmelaeaaaDoorPL01s
namespace Go.Proofs.YtmohocmmelaeaaaDoor.valueSums
open Go Go.Eng Go.ChangeShapes Go.WideShapes Go.ChangeAt Go.RowKit Go.Proofs.YtmohocmmelaeaaaDoor.M
set_option linter.unusedVariables false
theorem own : ownKnob Tryd.prog.godebug = none := by kernel_rfl
theorem laidOut : laidOutB Tryd.prog = true := by kernel_rfl
set_option maxRecDepth 100000 in
theorem lifted (os : Os) (started : os.Started) (H : Type) (enc : TypeId × Value → H) :
    ReturnsInHanded {} Tryd.checked os 7 .any (fun w args => (Rows.valueSumsSpec.pre enc Tryd.prog Tryd.f7 Rows.valueSumsRow.domain false w args ∧ laidMetH Tryd.prog Rows.valueSumsRow.laid w) ∧ sizedMet enc Tryd.prog Tryd.f7 (OpenSpec.ofChange Rows.valueSumsSpec) false w args) (Rows.valueSumsSpec.post enc Tryd.prog Tryd.f7 false true false false) := by
  refine change_all (C := Tryd.checked) (X := fun w _ => laidMetH Tryd.prog Rows.valueSumsRow.laid w) (fun _ _ _ hh h => h.of_heap hh) own started (by kernel_rfl) Tryd.func7
    (ChangeSpec.witness_shaped (enc := enc) (C := Tryd.checked) (os := os) (X := fun w _ => laidMetH Tryd.prog Rows.valueSumsRow.laid w) false (World.laidAll Tryd.prog os Rows.valueSumsRow.laid) #[.agg #[.int .i64 0, .int .i64 0, .int .i64 0, .int .i64 0, .int .i64 0, .int .i64 0, .int .i64 0, .int .i64 0], .agg #[.int .i64 0, .int .i64 0, .int .i64 0, .int .i64 0, .int .i64 0, .int .i64 0, .int .i64 0, .int .i64 0], .agg #[.int .i64 0, .int .i64 0, .int .i64 0, .int .i64 0, .int .i64 0, .int .i64 0, .int .i64 0, .int .i64 0]] 8 (World.laidAll_os _ _ _)
      (World.shaped_of_ZipB (by kernel_rfl) (by kernel_rfl)) (by kernel_rfl) (by kernel_rfl) (by kernel_rfl)
      (by rw [MakeChecks.laidMetH_plain _ _ _ (by kernel_rfl)]; exact laidMet_laidAll _ (by kernel_rfl) (by kernel_rfl))) ?_
  intro W base args ds gs before hval0 hW hcnd hsz0 hL hsh _
  rw [MakeChecks.laidMetH_plain _ _ _ (by kernel_rfl)] at hL
  obtain ⟨gm_, hgm⟩ := cell_of_shapedOpen_int (P := Tryd.prog) (g := 0) (t := 3) (zero := #[.int .i64 0]) hsh (of_decide_eq_true (by kernel_rfl)) (by kernel_rfl) rfl (by kernel_rfl) (by kernel_rfl) Tryd.underlying3
  have htab : Lib.TabIs Tryd.prog W "internal/strconv.uint64pow10" .u64 Lib.pow10Tab := tabIs_third (g := 1) (by kernel_rfl) (by kernel_rfl) Tryd.underlying82 Tryd.underlying70 (by kernel_rfl) (by kernel_rfl) hL
  have hGF : GF (hpOf W) := ⟨fun w hw => ⟨gm_, hw.cell (hp_cell hgm)⟩, fun w hw => tabIs_of_hp hw htab⟩
  have hsz : (DataW.weightsEach Tryd.prog (Tryd.f7.params.toList ++ Rows.valueSumsSpec.plain.varTypes Tryd.prog) (ds ++ gs)).all (· ≤ reachBytes) = true := hsz0
  have hval : ∀ (j : Nat) t v, Tryd.f7.params[j]? = some t → args[j]? = some v → Value.okWide Tryd.prog W .any base t v := hval0
  have hW' := hW
  obtain ⟨p, q, hA0, hV, rfl, hfz, hnd⟩ := hW
  have hA : DataW.TrodAll enc Tryd.prog W 0 (fun _ => true) true Tryd.f7.params.toList args.toList ds p := hA0
  rw [Tryd.params7] at hA hval hsz
  obtain ⟨v0, vs0, d0, ds0, p0, q0, hargs, rfl, rfl, h0, r0⟩ := trodAll_cons hA
  obtain ⟨v1, vs1, d1, ds1, p1, q1, rfl, rfl, rfl, h1, r1⟩ := trodAll_cons r0
  obtain ⟨v2, vs2, d2, ds2, p2, q2, rfl, rfl, rfl, h2, r2⟩ := trodAll_cons r1
  obtain ⟨rfl, rfl, rfl⟩ := trodAll_nil r2
  obtain rfl : args = #[v0, v1, v2] := by cases args; simp_all
  obtain ⟨rfl, rfl⟩ := trodVars_none hV
  have k0 := h0
  have lt0 : ∀ x ∈ p0, x.block < W.heap.size := by obtain ⟨m, hm⟩ := k0; exact DataW.trod_lt m _ _ _ hm
  obtain ⟨a0, b0, o0⟩ := opn22.arg h0 hsz (j := 0) rfl rfl
  obtain ⟨cs0, rfl⟩ := okWide_agg Tryd.underlying22 rfl (hval 0 22 v0 rfl rfl)
  obtain rfl := arr_of (show cs0.toList = [.int .i64 a0.a0, .int .i64 a0.a1, .int .i64 a0.a2, .int .i64 a0.a3, .int .i64 a0.a4, .int .i64 a0.a5, .int .i64 a0.a6, .int .i64 a0.a7] from b0)
  have k1 := h1
  have lt1 : ∀ x ∈ p1, x.block < W.heap.size := by obtain ⟨m, hm⟩ := k1; exact DataW.trod_lt m _ _ _ hm
  obtain ⟨a1, b1, o1⟩ := opn22.arg h1 hsz (j := 1) rfl rfl
  obtain ⟨cs1, rfl⟩ := okWide_agg Tryd.underlying22 rfl (hval 1 22 v1 rfl rfl)
  obtain rfl := arr_of (show cs1.toList = [.int .i64 a1.a0, .int .i64 a1.a1, .int .i64 a1.a2, .int .i64 a1.a3, .int .i64 a1.a4, .int .i64 a1.a5, .int .i64 a1.a6, .int .i64 a1.a7] from b1)
  have k2 := h2
  have lt2 : ∀ x ∈ p2, x.block < W.heap.size := by obtain ⟨m, hm⟩ := k2; exact DataW.trod_lt m _ _ _ hm
  obtain ⟨a2, b2, o2⟩ := opn22.arg h2 hsz (j := 2) rfl rfl
  obtain ⟨cs2, rfl⟩ := okWide_agg Tryd.underlying22 rfl (hval 2 22 v2 rfl rfl)
  obtain rfl := arr_of (show cs2.toList = [.int .i64 a2.a0, .int .i64 a2.a1, .int .i64 a2.a2, .int .i64 a2.a3, .int .i64 a2.a4, .int .i64 a2.a5, .int .i64 a2.a6, .int .i64 a2.a7] from b2)
  clear hA0 hval0 hsz0 hsz
  refine (law01_ValueSums.calls a0 a1 a2 (hpOf_sub W) hGF (ValueSums_pure a0 o0 a1 o1 a2 o2)).mono fun e W' ⟨he, bel0⟩ => ?_
  subst he
  have bel := bel0.to
  exact ⟨_, rfl, _, _, _, [], _, [], hW', trodAll_mk1 (shut_bool Tryd.underlying4 _), (trodAll_cons_mk (Below.trod laidOut (by kernel_rfl) (of_decide_eq_true (by kernel_rfl)) k0 bel lt0) (trodAll_cons_mk (Below.trod laidOut (by kernel_rfl) (of_decide_eq_true (by kernel_rfl)) k1 bel lt1) (trodAll_cons_mk (Below.trod laidOut (by kernel_rfl) (of_decide_eq_true (by kernel_rfl)) k2 bel lt2) trodAll_mk0))), rfl, bel.frame _, fun h => by cases h⟩
theorem over : Rows.valueSumsRow.holds Tryd.pinned (OpenSpec.ofChange Rows.valueSumsSpec) :=
  OpenClaim.holds_of_wide 7 Tryd.f7 rfl rfl rfl rfl rfl rfl rfl ⟨rfl, rfl, rfl, rfl, rfl⟩ rfl rfl rfl rfl rfl (by kernel_rfl) Tryd.func7 (by kernel_rfl)
    (of_decide_eq_true (by kernel_rfl)) (by unfold Func.isWrapper; first | (rw [if_pos (by decide +kernel)]; kernel_rfl) | (rw [if_neg (by decide +kernel)]; exact ⟨rfl, rfl⟩))
    (fun os started H enc _ => lifted os started H enc)
end Go.Proofs.YtmohocmmelaeaaaDoor.valueSums
namespace Go.Proofs.YtmohocmmelaeaaaDoor
theorem valueSums_holds : Rows.ValueSumsCardSaid :=
  Claim7.holds_tied_plain_at .later [] [.data, .data, .data, .data, .pinned] true (true, "b09e03115662f4c406f09845a5d245a0bb1dea2444c0faa156b0e0263f91fc90") false valueSums.over (fun _ h => by cases h) (by kernel_rfl) (fun _ h => by cases h) valueSums_row_tie rfl ⟨rfl, rfl⟩ (by kernel_rfl) rfl
    (fun f fn hf hfn => by
      obtain rfl : f = 7 := Option.some.inj ((show Tryd.prog.funcNamed "catchment/catchmentlaw01.ValueSums" = some 7 by kernel_rfl).symm.trans hf) |>.symm
      obtain rfl : fn = Tryd.f7 := (Option.some.inj (Tryd.func7.symm.trans hfn)).symm
      exact ⟨by kernel_rfl, fun j t ht => by
        rw [Tryd.params7] at ht
        have hm : t ∈ [22, 22, 22] := by simpa using Array.mem_of_getElem? ht
        have hall : ([22, 22, 22].all fun u => !Tryd.prog.wantsStandIn u) = true := by kernel_rfl
        exact (show Tryd.prog.wantsStandIn t = false by simpa using List.all_eq_true.1 hall t hm)⟩)
    (by kernel_rfl)
#print axioms valueSums_holds
end Go.Proofs.YtmohocmmelaeaaaDoor
