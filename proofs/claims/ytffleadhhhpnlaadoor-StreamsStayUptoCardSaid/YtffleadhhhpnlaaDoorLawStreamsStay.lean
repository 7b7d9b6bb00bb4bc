/- The law StreamsStay holds: for every input of bulk at most 1048576 the call answers true, and each argument reads as it did. Condition: that bound on the bulk, as the form states it. -/
import Derived.HandedShaped
import Derived.Shelf.Vars
import Derived.Lay
import Derived.LaidMore
import Derived.Stop.Joined
import Derived.Test.YtffleadhhhpnlaaDoorEngW
import Derived.Deep.DeepHandedRow
import Derived.SevenTiedAt
import Derived.Test.YtffleadhhhpnlaaDoorTie
import Derived.Test.YtffleadhhhpnlaaDoorCards
import Derived.Test.YtffleadhhhpnlaaDoorRows
import Derived.Test.YtffleadhhhpnlaaDoorWalkStreamsStay
import Derived.Test.YtffleadhhhpnlaaDoorOpnM
import Derived.Test.YtffleadhhhpnlaaDoorPL6v
import Derived.Test.YtffleadhhhpnlaaDoorPLWn
import Derived.Test.YtffleadhhhpnlaaDoorPL6w
import Derived.Test.YtffleadhhhpnlaaDoorPL6p
import Derived.Test.YtffleadhhhpnlaaDoorPL6i
import Derived.Test.YtffleadhhhpnlaaDoorPL6a
import Derived.Test.YtffleadhhhpnlaaDoorPL6b
import Derived.Test.YtffleadhhhpnlaaDoorPL6c
import Derived.Test.YtffleadhhhpnlaaDoorPL6d
import Derived.Test.YtffleadhhhpnlaaDoorPL6m
namespace Go.Proofs.YtffleadhhhpnlaaDoor.streamsStay
open Go Go.Eng Go.ChangeShapes Go.WideShapes Go.ChangeAt Go.RowKit Go.Proofs.YtffleadhhhpnlaaDoor.M
set_option linter.unusedVariables false
theorem own : ownKnob Tryd.prog.godebug = none := by kernel_rfl
theorem laidOut : laidOutB Tryd.prog = true := by kernel_rfl
theorem reads (os : Os) {H : Type} (enc : TypeId × Value → H) : DataW.whole enc Tryd.prog ((World.laidAll Tryd.prog os Rows.streamsStayUptoRow.laid).forCall (fun _ _ => 0) ⟨#[], #[.slice none 0 0], []⟩).memory Tryd.f3.params.toList (Rows.OpenSpec.upto Rows.streamsStaySpec).vars false #[.slice none 0 0].toList 8 = some ([.nil], [], []) := by kernel_rfl
set_option maxRecDepth 100000 in
theorem lifted (os : Os) (started : os.Started) (H : Type) (enc : TypeId × Value → H) (F : Stop.Interp) :
    ReturnsInHanded {} Tryd.checked os 3 .any ((Rows.OpenSpec.upto Rows.streamsStaySpec).preRow enc Tryd.prog Tryd.f3 Rows.streamsStayUptoRow.domain false Rows.streamsStayUptoRow.laid) (((Rows.OpenSpec.upto Rows.streamsStaySpec).at F).post enc Tryd.prog Tryd.f3 false true false false) := by
  refine returnsInHanded_of_row (C := Tryd.checked) (s := (Rows.OpenSpec.upto Rows.streamsStaySpec)) own started (by kernel_rfl) Tryd.func3
    (witness_row_at (enc := enc) (C := Tryd.checked) false (World.laidAll Tryd.prog os Rows.streamsStayUptoRow.laid) #[.slice none 0 0] (World.laidAll_os _ _ _) (by kernel_rfl) (by kernel_rfl) (by kernel_rfl)
      (OpenSpec.preRow_of_cond 8 (reads os enc) (by kernel_rfl) (fun k hk => by cases hk; kernel_rfl) (by kernel_rfl) (by rw [MakeChecks.laidMetH_plain _ _ _ (by kernel_rfl)]; exact laidMet_laidAll _ (by kernel_rfl) (by kernel_rfl)))) ?_
  intro W base args ds gs before hval0 hW hcnd hkc hsz0 hL hsh _
  have hk : Rows.uptoSmall H (ds ++ gs) = true := hkc _ rfl
  rw [MakeChecks.laidMetH_plain _ _ _ (by kernel_rfl)] at hL
  clear hsz0 hkc hcnd
  have htab : Lib.TabIs Tryd.prog W "internal/strconv.uint64pow10" .u64 Lib.pow10Tab := tabIs_third (g := 0) (by kernel_rfl) (by kernel_rfl) Tryd.underlying84 Tryd.underlying77 (by kernel_rfl) (by kernel_rfl) hL
  have hGF : GF (hpOf W) := fun w hw => tabIs_of_hp hw htab
  have hsz := hk
  have hval : ∀ (j : Nat) t v, Tryd.f3.params[j]? = some t → args[j]? = some v → Value.okWide Tryd.prog W .any base t v := hval0
  have hW' := hW
  obtain ⟨p, q, hA0, hV, rfl, hfz, hnd⟩ := hW
  have hA : DataW.TrodAll enc Tryd.prog W 0 (fun _ => true) true Tryd.f3.params.toList args.toList ds p := hA0
  rw [Tryd.params3] at hA hval
  obtain ⟨v0, vs0, d0, ds0, p0, q0, hargs, rfl, rfl, h0, r0⟩ := trodAll_cons hA
  obtain ⟨rfl, rfl, rfl⟩ := trodAll_nil r0
  obtain rfl : args = #[v0] := by cases args; simp_all
  obtain ⟨rfl, rfl⟩ := trodVars_none hV
  have k0 := h0
  have lt0 : ∀ x ∈ p0, x.block < W.heap.size := by obtain ⟨m, hm⟩ := k0; exact DataW.trod_lt m _ _ _ hm
  obtain ⟨a0, b0, o0⟩ := opm22.arg h0 (small_of hsz (by simp))
  rw [okWide_one Tryd.underlying22 rfl (hval 0 22 v0 rfl rfl)] at b0
  obtain ⟨u0, e0, s0⟩ := b0
  obtain rfl := (List.cons.inj e0).1
  clear hA0 hval0 hsz
  refine (law06_StreamsStay.calls a0 (hpOf_sub W) s0 hGF (StreamsStay_upto a0 o0)).mono fun e W' ⟨he, bel0⟩ => ?_
  subst he
  have bel := bel0.to
  exact ⟨_, rfl, (show Rows.streamsStaySpec.post enc Tryd.prog Tryd.f3 false true false false W _ _ _ from ⟨_, _, _, [], _, [], hW', trodAll_mk1 (shut_bool Tryd.underlying4 _), (trodAll_cons_mk (Below.trod laidOut (by kernel_rfl) (of_decide_eq_true (by kernel_rfl)) k0 bel lt0) trodAll_mk0), rfl, bel.frame _, fun h => by cases h⟩)⟩
theorem over : Rows.streamsStayUptoRow.holds Tryd.pinned (Rows.OpenSpec.upto Rows.streamsStaySpec) :=
  OpenClaim.holds_of_cond 3 Tryd.f3 rfl rfl rfl rfl rfl rfl rfl ⟨rfl, rfl, rfl, rfl, rfl⟩ rfl rfl rfl rfl rfl (by kernel_rfl) Tryd.func3 (by kernel_rfl)
    (of_decide_eq_true (by kernel_rfl)) (by unfold Func.isWrapper; first | (rw [if_pos (by decide +kernel)]; kernel_rfl) | (rw [if_neg (by decide +kernel)]; exact ⟨rfl, rfl⟩))
    (fun os started H enc _ F => by rw [OpenClaim.pre_eq_preRow]; exact lifted os started H enc F)
end Go.Proofs.YtffleadhhhpnlaaDoor.streamsStay
namespace Go.Proofs.YtffleadhhhpnlaaDoor
theorem streamsStay_holds : Rows.StreamsStayUptoCardSaid :=
  Claim7.holds_tied_plain_at .later [] [.data, .data, .data] true (true, "122946d6871b258c2db6fccadaee4b9fdc94470e33031737dd6451d495abe923") true streamsStay.over (fun _ h => by cases h) (by kernel_rfl) (fun _ h => by cases h) streamsStayUpto_row_tie rfl ⟨rfl, rfl⟩ (by kernel_rfl) rfl
    (fun f fn hf hfn => by
      obtain rfl : f = 3 := Option.some.inj ((show Tryd.prog.funcNamed "catchment/catchmentlaw06.StreamsStay" = some 3 by kernel_rfl).symm.trans hf) |>.symm
      obtain rfl : fn = Tryd.f3 := (Option.some.inj (Tryd.func3.symm.trans hfn)).symm
      exact ⟨by kernel_rfl, fun j t ht => by
        rw [Tryd.params3] at ht
        have hm : t ∈ [22] := by simpa using Array.mem_of_getElem? ht
        have hall : ([22].all fun u => !Tryd.prog.wantsStandIn u) = true := by kernel_rfl
        exact (show Tryd.prog.wantsStandIn t = false by simpa using List.all_eq_true.1 hall t hm)⟩)
    (by kernel_rfl)
#print axioms streamsStay_holds
end Go.Proofs.YtffleadhhhpnlaaDoor
