/- The law LeafTimes holds: for every input the call answers true, and each argument reads as it did. No condition. -/
import Derived.HandedShaped
import Derived.Shelf.Vars
import Derived.Lay
import Derived.LaidMore
import Derived.Stop.Joined
import Derived.SevenTiedAt
import Derived.Test.YtchgiggipimigaaGreatDoorTie
import Derived.Test.YtchgiggipimigaaGreatDoorCards
import Derived.Test.YtchgiggipimigaaGreatDoorRows
import Derived.Test.YtchgiggipimigaaGreatDoorLeafTimesW2
import Derived.Test.YtchgiggipimigaaGreatDoorLeafTimesO1
import Derived.Test.YtchgiggipimigaaGreatDoorLeafTimesL1
section
namespace Go.Proofs.YtchgiggipimigaaGreatDoor.leafTimes
open Go Go.Eng Go.ChangeShapes Go.WideShapes Go.ChangeAt Go.RowKit Go.Proofs.YtchgiggipimigaaGreatDoor.M
set_option linter.unusedVariables false
theorem own : ownKnob Tryz.prog.godebug = none := by kernel_rfl
theorem laidOut : laidOutB Tryz.prog = true := by kernel_rfl
set_option maxRecDepth 100000 in
theorem lifted (os : Os) (started : os.Started) (H : Type) (enc : TypeId × Value → H) :
    ReturnsInHanded {} Tryz.checked os 5 .any (fun w args => (Rows.leafTimesSpec.pre enc Tryz.prog Tryz.f5 Rows.leafTimesRow.domain false w args ∧ laidMetH Tryz.prog Rows.leafTimesRow.laid w) ∧ sizedMet enc Tryz.prog Tryz.f5 (OpenSpec.ofChange Rows.leafTimesSpec) false w args) (Rows.leafTimesSpec.post enc Tryz.prog Tryz.f5 false true false false) := by
  refine change_all (C := Tryz.checked) (X := fun w _ => laidMetH Tryz.prog Rows.leafTimesRow.laid w) (fun _ _ _ hh h => h.of_heap hh) own started (by kernel_rfl) Tryz.func5
    (ChangeSpec.witness_shaped (enc := enc) (C := Tryz.checked) (os := os) (X := fun w _ => laidMetH Tryz.prog Rows.leafTimesRow.laid w) false (World.laidAll Tryz.prog os Rows.leafTimesRow.laid) #[.slice none 0 0, .slice none 0 0, .int .i64 0] 8 (World.laidAll_os _ _ _)
      (World.shaped_of_ZipB (by kernel_rfl) (by kernel_rfl)) (by kernel_rfl) (by kernel_rfl) (by kernel_rfl)
      (by rw [MakeChecks.laidMetH_plain _ _ _ (by kernel_rfl)]; exact laidMet_laidAll _ (by kernel_rfl) (by kernel_rfl))) ?_
  intro W base args ds gs before hval0 hW hcnd hsz0 hL hsh _
  rw [MakeChecks.laidMetH_plain _ _ _ (by kernel_rfl)] at hL
  obtain ⟨gm_, hgm⟩ := cell_of_shapedOpen_int (P := Tryz.prog) (g := 0) (t := 3) (zero := #[.int .i64 0]) hsh (of_decide_eq_true (by kernel_rfl)) (by kernel_rfl) rfl (by kernel_rfl) (by kernel_rfl) Tryz.underlying3
  have htab : Lib.TabIs Tryz.prog W "internal/strconv.uint64pow10" .u64 Lib.pow10Tab := tabIs_third (g := 1) (by kernel_rfl) (by kernel_rfl) Tryz.underlying186 Tryz.underlying161 (by kernel_rfl) (by kernel_rfl) hL
  have hGF : GF (hpOf W) := ⟨fun w hw => ⟨gm_, hw.cell (hp_cell hgm)⟩, fun w hw => tabIs_of_hp hw htab⟩
  have hsz : (DataW.weightsEach Tryz.prog (Tryz.f5.params.toList ++ Rows.leafTimesSpec.plain.varTypes Tryz.prog) (ds ++ gs)).all (· ≤ reachBytes) = true := hsz0
  have hval : ∀ (j : Nat) t v, Tryz.f5.params[j]? = some t → args[j]? = some v → Value.okWide Tryz.prog W .any base t v := hval0
  have hW' := hW
  obtain ⟨p, q, hA0, hV, rfl, hfz, hnd⟩ := hW
  have hA : DataW.TrodAll enc Tryz.prog W 0 (fun _ => true) true Tryz.f5.params.toList args.toList ds p := hA0
  rw [Tryz.params5] at hA hval hsz
  obtain ⟨v0, vs0, d0, ds0, p0, q0, hargs, rfl, rfl, h0, r0⟩ := trodAll_cons hA
  obtain ⟨v1, vs1, d1, ds1, p1, q1, rfl, rfl, rfl, h1, r1⟩ := trodAll_cons r0
  obtain ⟨v2, vs2, d2, ds2, p2, q2, rfl, rfl, rfl, h2, r2⟩ := trodAll_cons r1
  obtain ⟨rfl, rfl, rfl⟩ := trodAll_nil r2
  obtain rfl : args = #[v0, v1, v2] := by cases args; simp_all
  obtain ⟨rfl, rfl⟩ := trodVars_none hV
  have k0 := h0
  have lt0 : ∀ x ∈ p0, x.block < W.heap.size := by obtain ⟨m, hm⟩ := k0; exact DataW.trod_lt m _ _ _ hm
  obtain ⟨a0, b0, o0⟩ := opn28.arg h0 hsz (j := 0) rfl rfl
  rw [okWide_one Tryz.underlying28 rfl (hval 0 28 v0 rfl rfl)] at b0
  obtain ⟨u0, e0, s0⟩ := b0
  obtain rfl := (List.cons.inj e0).1
  have k1 := h1
  have lt1 : ∀ x ∈ p1, x.block < W.heap.size := by obtain ⟨m, hm⟩ := k1; exact DataW.trod_lt m _ _ _ hm
  obtain ⟨a1, b1, o1⟩ := opn30.arg h1 hsz (j := 1) rfl rfl
  rw [okWide_one Tryz.underlying30 rfl (hval 1 30 v1 rfl rfl)] at b1
  obtain ⟨u1, e1, s1⟩ := b1
  obtain rfl := (List.cons.inj e1).1
  have k2 := h2
  have lt2 : ∀ x ∈ p2, x.block < W.heap.size := by obtain ⟨m, hm⟩ := k2; exact DataW.trod_lt m _ _ _ hm
  obtain ⟨a2, b2, o2⟩ := opn3.arg h2 hsz (j := 2) rfl rfl
  rw [okWide_one Tryz.underlying3 rfl (hval 2 3 v2 rfl rfl)] at b2
  obtain rfl := (List.cons.inj (show [v2] = [.int .i64 a2] from b2)).1
  clear hA0 hval0 hsz hsz0
  refine (law08_LeafTimes.calls a0 a1 a2 (hpOf_sub W) (hpOf_sub W) s0 s1 hGF (LeafTimes_pure a0 o0 a1 o1 a2 o2)).mono fun e W' ⟨he, bel0⟩ => ?_
  subst he
  have bel := bel0.to
  exact ⟨_, rfl, _, _, _, [], _, [], hW', trodAll_mk1 (shut_bool Tryz.underlying4 _), (trodAll_cons_mk (Below.trod laidOut (by kernel_rfl) (of_decide_eq_true (by kernel_rfl)) k0 bel lt0) (trodAll_cons_mk (Below.trod laidOut (by kernel_rfl) (of_decide_eq_true (by kernel_rfl)) k1 bel lt1) (trodAll_cons_mk (Below.trod laidOut (by kernel_rfl) (of_decide_eq_true (by kernel_rfl)) k2 bel lt2) trodAll_mk0))), rfl, bel.frame _, fun h => by cases h⟩
theorem over : Rows.leafTimesRow.holds Tryz.pinned (OpenSpec.ofChange Rows.leafTimesSpec) :=
  OpenClaim.holds_of_wide 5 Tryz.f5 rfl rfl rfl rfl rfl rfl rfl ⟨rfl, rfl, rfl, rfl, rfl⟩ rfl rfl rfl rfl rfl (by kernel_rfl) Tryz.func5 (by kernel_rfl)
    (of_decide_eq_true (by kernel_rfl)) (by unfold Func.isWrapper; first | (rw [if_pos (by decide +kernel)]; kernel_rfl) | (rw [if_neg (by decide +kernel)]; exact ⟨rfl, rfl⟩))
    (fun os started H enc _ => lifted os started H enc)
end Go.Proofs.YtchgiggipimigaaGreatDoor.leafTimes
namespace Go.Proofs.YtchgiggipimigaaGreatDoor
theorem leafTimes_holds : Rows.LeafTimesCardSaid :=
  Claim7.holds_tied_plain_at .later [] [.data, .data, .data] true (true, "072ecf3a38c0cc777fe43f8cdb17c6522ba2772d927958019356b4a520889005") true leafTimes.over (fun _ h => by cases h) (by kernel_rfl) (fun _ h => by cases h) leafTimes_row_tie rfl ⟨rfl, rfl⟩ (by kernel_rfl) rfl
    (fun f fn hf hfn => by
      obtain rfl : f = 5 := Option.some.inj ((show Tryz.prog.funcNamed "catchment/catchmentlaw08.LeafTimes" = some 5 by kernel_rfl).symm.trans hf) |>.symm
      obtain rfl : fn = Tryz.f5 := (Option.some.inj (Tryz.func5.symm.trans hfn)).symm
      exact ⟨by kernel_rfl, fun j t ht => by
        rw [Tryz.params5] at ht
        have hm : t ∈ [28, 30, 3] := by simpa using Array.mem_of_getElem? ht
        have hall : ([28, 30, 3].all fun u => !Tryz.prog.wantsStandIn u) = true := by kernel_rfl
        exact (show Tryz.prog.wantsStandIn t = false by simpa using List.all_eq_true.1 hall t hm)⟩)
    (by kernel_rfl)
#print axioms leafTimes_holds
end Go.Proofs.YtchgiggipimigaaGreatDoor
end
