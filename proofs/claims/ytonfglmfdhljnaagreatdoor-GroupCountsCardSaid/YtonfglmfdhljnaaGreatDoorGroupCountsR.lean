/- The law GroupCounts holds: for every input the call answers true, and each argument reads as it did. No condition. -/
import Derived.HandedShaped
import Derived.Shelf.Vars
import Derived.Lay
import Derived.LaidMore
import Derived.Stop.Joined
import Derived.SevenTiedAt
import Derived.Test.YtonfglmfdhljnaaGreatDoorTie
import Derived.Test.YtonfglmfdhljnaaGreatDoorCards
import Derived.Test.YtonfglmfdhljnaaGreatDoorRows
import Derived.Test.YtonfglmfdhljnaaGreatDoorGroupCountsW2
import Derived.Test.YtonfglmfdhljnaaGreatDoorGroupCountsO1
import Derived.Test.YtonfglmfdhljnaaGreatDoorGroupCountsL1
section
namespace Go.Proofs.YtonfglmfdhljnaaGreatDoor.groupCounts
open Go Go.Eng Go.ChangeShapes Go.WideShapes Go.ChangeAt Go.RowKit Go.Proofs.YtonfglmfdhljnaaGreatDoor.M
set_option linter.unusedVariables false
theorem own : ownKnob Tryz.prog.godebug = none := by kernel_rfl
theorem laidOut : laidOutB Tryz.prog = true := by kernel_rfl
set_option maxRecDepth 100000 in
theorem lifted (os : Os) (started : os.Started) (H : Type) (enc : TypeId × Value → H) :
    ReturnsInHanded {} Tryz.checked os 7 .any (fun w args => (Rows.groupCountsSpec.pre enc Tryz.prog Tryz.f7 Rows.groupCountsRow.domain false w args ∧ laidMetH Tryz.prog Rows.groupCountsRow.laid w) ∧ sizedMet enc Tryz.prog Tryz.f7 (OpenSpec.ofChange Rows.groupCountsSpec) false w args) (Rows.groupCountsSpec.post enc Tryz.prog Tryz.f7 false true false false) := by
  refine change_all (C := Tryz.checked) (X := fun w _ => laidMetH Tryz.prog Rows.groupCountsRow.laid w) (fun _ _ _ hh h => h.of_heap hh) own started (by kernel_rfl) Tryz.func7
    (ChangeSpec.witness_shaped (enc := enc) (C := Tryz.checked) (os := os) (X := fun w _ => laidMetH Tryz.prog Rows.groupCountsRow.laid w) false (World.laidAll Tryz.prog os Rows.groupCountsRow.laid) #[.agg #[.slice none 0 0, .slice none 0 0], .int .i64 0] 8 (World.laidAll_os _ _ _)
      (World.shaped_of_ZipB (by kernel_rfl) (by kernel_rfl)) (by kernel_rfl) (by kernel_rfl) (by kernel_rfl)
      (by rw [MakeChecks.laidMetH_plain _ _ _ (by kernel_rfl)]; exact laidMet_laidAll _ (by kernel_rfl) (by kernel_rfl))) ?_
  intro W base args ds gs before hval0 hW hcnd hsz0 hL hsh _
  rw [MakeChecks.laidMetH_plain _ _ _ (by kernel_rfl)] at hL
  have htab : Lib.TabIs Tryz.prog W "internal/strconv.uint64pow10" .u64 Lib.pow10Tab := tabIs_third (g := 0) (by kernel_rfl) (by kernel_rfl) Tryz.underlying158 Tryz.underlying128 (by kernel_rfl) (by kernel_rfl) hL
  have hGF : GF (hpOf W) := fun w hw => tabIs_of_hp hw htab
  have hsz : (DataW.weightsEach Tryz.prog (Tryz.f7.params.toList ++ Rows.groupCountsSpec.plain.varTypes Tryz.prog) (ds ++ gs)).all (· ≤ reachBytes) = true := hsz0
  have hval : ∀ (j : Nat) t v, Tryz.f7.params[j]? = some t → args[j]? = some v → Value.okWide Tryz.prog W .any base t v := hval0
  have hW' := hW
  obtain ⟨p, q, hA0, hV, rfl, hfz, hnd⟩ := hW
  have hA : DataW.TrodAll enc Tryz.prog W 0 (fun _ => true) true Tryz.f7.params.toList args.toList ds p := hA0
  rw [Tryz.params7] at hA hval hsz
  obtain ⟨v0, vs0, d0, ds0, p0, q0, hargs, rfl, rfl, h0, r0⟩ := trodAll_cons hA
  obtain ⟨v1, vs1, d1, ds1, p1, q1, rfl, rfl, rfl, h1, r1⟩ := trodAll_cons r0
  obtain ⟨rfl, rfl, rfl⟩ := trodAll_nil r1
  obtain rfl : args = #[v0, v1] := by cases args; simp_all
  obtain ⟨rfl, rfl⟩ := trodVars_none hV
  have k0 := h0
  have lt0 : ∀ x ∈ p0, x.block < W.heap.size := by obtain ⟨m, hm⟩ := k0; exact DataW.trod_lt m _ _ _ hm
  obtain ⟨a0, b0, o0⟩ := opn35.arg h0 hsz (j := 0) rfl rfl
  obtain ⟨cs0, rfl⟩ := okWide_agg Tryz.underlying35 rfl (hval 0 35 v0 rfl rfl)
  obtain ⟨u0_0, u0_1, e0, s0_0, s0_1⟩ := b0
  obtain rfl := arr_of e0
  have k1 := h1
  have lt1 : ∀ x ∈ p1, x.block < W.heap.size := by obtain ⟨m, hm⟩ := k1; exact DataW.trod_lt m _ _ _ hm
  obtain ⟨a1, b1, o1⟩ := opn3.arg h1 hsz (j := 1) rfl rfl
  rw [okWide_one Tryz.underlying3 rfl (hval 1 3 v1 rfl rfl)] at b1
  obtain rfl := (List.cons.inj (show [v1] = [.int .i64 a1] from b1)).1
  clear hA0 hval0 hsz hsz0
  refine (law18_GroupCounts.calls a0 a1 (hpOf_sub W) (hpOf_sub W) s0_0 s0_1 hGF (GroupCounts_pure a0 o0 a1 o1)).mono fun e W' ⟨he, bel0⟩ => ?_
  subst he
  have bel := bel0.to
  exact ⟨_, rfl, _, _, _, [], _, [], hW', trodAll_mk1 (shut_bool Tryz.underlying4 _), (trodAll_cons_mk (Below.trod laidOut (by kernel_rfl) (of_decide_eq_true (by kernel_rfl)) k0 bel lt0) (trodAll_cons_mk (Below.trod laidOut (by kernel_rfl) (of_decide_eq_true (by kernel_rfl)) k1 bel lt1) trodAll_mk0)), rfl, bel.frame _, fun h => by cases h⟩
theorem over : Rows.groupCountsRow.holds Tryz.pinned (OpenSpec.ofChange Rows.groupCountsSpec) :=
  OpenClaim.holds_of_wide 7 Tryz.f7 rfl rfl rfl rfl rfl rfl rfl ⟨rfl, rfl, rfl, rfl, rfl⟩ rfl rfl rfl rfl rfl (by kernel_rfl) Tryz.func7 (by kernel_rfl)
    (of_decide_eq_true (by kernel_rfl)) (by unfold Func.isWrapper; first | (rw [if_pos (by decide +kernel)]; kernel_rfl) | (rw [if_neg (by decide +kernel)]; exact ⟨rfl, rfl⟩))
    (fun os started H enc _ => lifted os started H enc)
end Go.Proofs.YtonfglmfdhljnaaGreatDoor.groupCounts
namespace Go.Proofs.YtonfglmfdhljnaaGreatDoor
theorem groupCounts_holds : Rows.GroupCountsCardSaid :=
  Claim7.holds_tied_plain_at .later [] [.data, .data, .data] true (true, "20f4e7a092c9093c5597cc9a57d59fa02ae3a738470096bc6da9f4906038d423") false groupCounts.over (fun _ h => by cases h) (by kernel_rfl) (fun _ h => by cases h) groupCounts_row_tie rfl ⟨rfl, rfl⟩ (by kernel_rfl) rfl
    (fun f fn hf hfn => by
      obtain rfl : f = 7 := Option.some.inj ((show Tryz.prog.funcNamed "catchment/catchmentlaw18.GroupCounts" = some 7 by kernel_rfl).symm.trans hf) |>.symm
      obtain rfl : fn = Tryz.f7 := (Option.some.inj (Tryz.func7.symm.trans hfn)).symm
      exact ⟨by kernel_rfl, fun j t ht => by
        rw [Tryz.params7] at ht
        have hm : t ∈ [35, 3] := by simpa using Array.mem_of_getElem? ht
        have hall : ([35, 3].all fun u => !Tryz.prog.wantsStandIn u) = true := by kernel_rfl
        exact (show Tryz.prog.wantsStandIn t = false by simpa using List.all_eq_true.1 hall t hm)⟩)
    (by kernel_rfl)
#print axioms groupCounts_holds
end Go.Proofs.YtonfglmfdhljnaaGreatDoor
end
