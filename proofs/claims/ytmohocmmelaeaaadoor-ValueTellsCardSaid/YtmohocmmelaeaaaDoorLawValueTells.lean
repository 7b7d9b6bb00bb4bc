/- The law ValueTells holds: for every input the call answers true, and each argument reads as it did. No condition. -/
import Derived.HandedShaped
import Derived.Shelf.Vars
import Derived.Lay
import Derived.LaidMore
import Derived.Stop.Joined
import Derived.Test.YtmohocmmelaeaaaDoorEngW
import Derived.SevenTiedAt
import Derived.Test.YtmohocmmelaeaaaDoorTie
import Derived.Test.YtmohocmmelaeaaaDoorCards
import Derived.Test.YtmohocmmelaeaaaDoorRows
import Derived.Test.YtmohocmmelaeaaaDoorWalkValueTells
import Derived.Test.YtmohocmmelaeaaaDoorOpn
import Derived.Test.YtmohocmmelaeaaaDoorPL01v
import Derived.Test.YtmohocmmelaeaaaDoorPL01
import Derived.Test.YtmohocmmelaeaaaDoorPL01t
import Derived.Test.YtmohocmmelaeaaaDoorPL01u
namespace Go.Proofs.YtmohocmmelaeaaaDoor.valueTells
open Go Go.Eng Go.ChangeShapes Go.WideShapes Go.ChangeAt Go.RowKit Go.Proofs.YtmohocmmelaeaaaDoor.M
set_option linter.unusedVariables false
theorem own : ownKnob Tryd.prog.godebug = none := by kernel_rfl
theorem laidOut : laidOutB Tryd.prog = true := by kernel_rfl
set_option maxRecDepth 100000 in
theorem lifted (os : Os) (started : os.Started) (H : Type) (enc : TypeId × Value → H) :
    ReturnsInHanded {} Tryd.checked os 11 .any (fun w args => (Rows.valueTellsSpec.pre enc Tryd.prog Tryd.f11 Rows.valueTellsRow.domain false w args ∧ laidMetH Tryd.prog Rows.valueTellsRow.laid w) ∧ sizedMet enc Tryd.prog Tryd.f11 (OpenSpec.ofChange Rows.valueTellsSpec) false w args) (Rows.valueTellsSpec.post enc Tryd.prog Tryd.f11 false true false false) := by
  refine change_all (C := Tryd.checked) (X := fun w _ => laidMetH Tryd.prog Rows.valueTellsRow.laid w) (fun _ _ _ hh h => h.of_heap hh) own started (by kernel_rfl) Tryd.func11
    (ChangeSpec.witness_shaped (enc := enc) (C := Tryd.checked) (os := os) (X := fun w _ => laidMetH Tryd.prog Rows.valueTellsRow.laid w) false (World.laidAll Tryd.prog os Rows.valueTellsRow.laid) #[.agg #[.int .i64 0, .int .i64 0, .string (⟨#[]⟩ : ByteArray), .int .i64 0, .int .i64 0, .int .i64 0, .int .i64 0, .int .i64 0, .int .i64 0, .int .i64 0, .int .i64 0], .agg #[.int .i64 0, .int .i64 0, .string (⟨#[]⟩ : ByteArray), .int .i64 0, .int .i64 0, .int .i64 0, .int .i64 0, .int .i64 0, .int .i64 0, .int .i64 0, .int .i64 0]] 8 (World.laidAll_os _ _ _)
      (World.shaped_of_ZipB (by kernel_rfl) (by kernel_rfl)) (by kernel_rfl) (by kernel_rfl) (by kernel_rfl)
      (by rw [MakeChecks.laidMetH_plain _ _ _ (by kernel_rfl)]; exact laidMet_laidAll _ (by kernel_rfl) (by kernel_rfl))) ?_
  intro W base args ds gs before hval0 hW hcnd hsz0 hL hsh _
  rw [MakeChecks.laidMetH_plain _ _ _ (by kernel_rfl)] at hL
  obtain ⟨gm_, hgm⟩ := cell_of_shapedOpen_int (P := Tryd.prog) (g := 0) (t := 3) (zero := #[.int .i64 0]) hsh (of_decide_eq_true (by kernel_rfl)) (by kernel_rfl) rfl (by kernel_rfl) (by kernel_rfl) Tryd.underlying3
  have htab : Lib.TabIs Tryd.prog W "internal/strconv.uint64pow10" .u64 Lib.pow10Tab := tabIs_third (g := 1) (by kernel_rfl) (by kernel_rfl) Tryd.underlying82 Tryd.underlying70 (by kernel_rfl) (by kernel_rfl) hL
  have hGF : GF (hpOf W) := ⟨fun w hw => ⟨gm_, hw.cell (hp_cell hgm)⟩, fun w hw => tabIs_of_hp hw htab⟩
  have hsz : (DataW.weightsEach Tryd.prog (Tryd.f11.params.toList ++ Rows.valueTellsSpec.plain.varTypes Tryd.prog) (ds ++ gs)).all (· ≤ reachBytes) = true := hsz0
  have hval : ∀ (j : Nat) t v, Tryd.f11.params[j]? = some t → args[j]? = some v → Value.okWide Tryd.prog W .any base t v := hval0
  have hW' := hW
  obtain ⟨p, q, hA0, hV, rfl, hfz, hnd⟩ := hW
  have hA : DataW.TrodAll enc Tryd.prog W 0 (fun _ => true) true Tryd.f11.params.toList args.toList ds p := hA0
  rw [Tryd.params11] at hA hval hsz
  obtain ⟨v0, vs0, d0, ds0, p0, q0, hargs, rfl, rfl, h0, r0⟩ := trodAll_cons hA
  obtain ⟨v1, vs1, d1, ds1, p1, q1, rfl, rfl, rfl, h1, r1⟩ := trodAll_cons r0
  obtain ⟨rfl, rfl, rfl⟩ := trodAll_nil r1
  obtain rfl : args = #[v0, v1] := by cases args; simp_all
  obtain ⟨rfl, rfl⟩ := trodVars_none hV
  have k0 := h0
  have lt0 : ∀ x ∈ p0, x.block < W.heap.size := by obtain ⟨m, hm⟩ := k0; exact DataW.trod_lt m _ _ _ hm
  obtain ⟨a0, b0, o0⟩ := opn24.arg h0 hsz (j := 0) rfl rfl
  obtain ⟨cs0, rfl⟩ := okWide_agg Tryd.underlying24 rfl (hval 0 24 v0 rfl rfl)
  obtain rfl := arr_of (show cs0.toList = [.int .i64 a0.Kind, .int .i64 a0.N, .string a0.S, .int .i64 a0.H.a0, .int .i64 a0.H.a1, .int .i64 a0.H.a2, .int .i64 a0.H.a3, .int .i64 a0.H.a4, .int .i64 a0.H.a5, .int .i64 a0.H.a6, .int .i64 a0.H.a7] from b0)
  have k1 := h1
  have lt1 : ∀ x ∈ p1, x.block < W.heap.size := by obtain ⟨m, hm⟩ := k1; exact DataW.trod_lt m _ _ _ hm
  obtain ⟨a1, b1, o1⟩ := opn24.arg h1 hsz (j := 1) rfl rfl
  obtain ⟨cs1, rfl⟩ := okWide_agg Tryd.underlying24 rfl (hval 1 24 v1 rfl rfl)
  obtain rfl := arr_of (show cs1.toList = [.int .i64 a1.Kind, .int .i64 a1.N, .string a1.S, .int .i64 a1.H.a0, .int .i64 a1.H.a1, .int .i64 a1.H.a2, .int .i64 a1.H.a3, .int .i64 a1.H.a4, .int .i64 a1.H.a5, .int .i64 a1.H.a6, .int .i64 a1.H.a7] from b1)
  clear hA0 hval0 hsz0 hsz
  refine (law01_ValueTells.calls a0 a1 (hpOf_sub W) hGF (ValueTells_pure a0 o0 a1 o1)).mono fun e W' ⟨he, bel0⟩ => ?_
  subst he
  have bel := bel0.to
  exact ⟨_, rfl, _, _, _, [], _, [], hW', trodAll_mk1 (shut_bool Tryd.underlying4 _), (trodAll_cons_mk (Below.trod laidOut (by kernel_rfl) (of_decide_eq_true (by kernel_rfl)) k0 bel lt0) (trodAll_cons_mk (Below.trod laidOut (by kernel_rfl) (of_decide_eq_true (by kernel_rfl)) k1 bel lt1) trodAll_mk0)), rfl, bel.frame _, fun h => by cases h⟩
theorem over : Rows.valueTellsRow.holds Tryd.pinned (OpenSpec.ofChange Rows.valueTellsSpec) :=
  OpenClaim.holds_of_wide 11 Tryd.f11 rfl rfl rfl rfl rfl rfl rfl ⟨rfl, rfl, rfl, rfl, rfl⟩ rfl rfl rfl rfl rfl (by kernel_rfl) Tryd.func11 (by kernel_rfl)
    (of_decide_eq_true (by kernel_rfl)) (by unfold Func.isWrapper; first | (rw [if_pos (by decide +kernel)]; kernel_rfl) | (rw [if_neg (by decide +kernel)]; exact ⟨rfl, rfl⟩))
    (fun os started H enc _ => lifted os started H enc)
end Go.Proofs.YtmohocmmelaeaaaDoor.valueTells
namespace Go.Proofs.YtmohocmmelaeaaaDoor
theorem valueTells_holds : Rows.ValueTellsCardSaid :=
  Claim7.holds_tied_plain_at .later [] [.data, .data, .data, .data, .pinned] true (true, "b09e03115662f4c406f09845a5d245a0bb1dea2444c0faa156b0e0263f91fc90") false valueTells.over (fun _ h => by cases h) (by kernel_rfl) (fun _ h => by cases h) valueTells_row_tie rfl ⟨rfl, rfl⟩ (by kernel_rfl) rfl
    (fun f fn hf hfn => by
      obtain rfl : f = 11 := Option.some.inj ((show Tryd.prog.funcNamed "catchment/catchmentlaw01.ValueTells" = some 11 by kernel_rfl).symm.trans hf) |>.symm
      obtain rfl : fn = Tryd.f11 := (Option.some.inj (Tryd.func11.symm.trans hfn)).symm
      exact ⟨by kernel_rfl, fun j t ht => by
        rw [Tryd.params11] at ht
        have hm : t ∈ [24, 24] := by simpa using Array.mem_of_getElem? ht
        have hall : ([24, 24].all fun u => !Tryd.prog.wantsStandIn u) = true := by kernel_rfl
        exact (show Tryd.prog.wantsStandIn t = false by simpa using List.all_eq_true.1 hall t hm)⟩)
    (by kernel_rfl)
#print axioms valueTells_holds
end Go.Proofs.YtmohocmmelaeaaaDoor
