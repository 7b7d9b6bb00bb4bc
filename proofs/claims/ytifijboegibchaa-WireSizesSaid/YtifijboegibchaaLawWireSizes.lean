/- The law WireSizes holds: for every input the call answers true, and each argument reads as it did. No condition. -/
import Derived.Test.YtifijboegibchaaRows
import Derived.Test.YtifijboegibchaaWalkWireSizes
import Derived.Test.YtifijboegibchaaOpn
import Derived.Test.YtifijboegibchaaPLVs
import Derived.Test.YtifijboegibchaaPLVo
import Derived.Test.YtifijboegibchaaPLVv
import Derived.Test.YtifijboegibchaaPLVw
import Derived.Test.YtifijboegibchaaPLVr
import Derived.Test.YtifijboegibchaaPLCr
import Derived.Test.YtifijboegibchaaPLSm
import Derived.Test.YtifijboegibchaaPLWn
import Derived.Test.YtifijboegibchaaPLWs
import Derived.Test.YtifijboegibchaaPLWp
import Derived.Test.YtifijboegibchaaPLWt
import Derived.Test.YtifijboegibchaaPLWq
import Derived.Test.YtifijboegibchaaPLWx
import Derived.Test.YtifijboegibchaaPL04
namespace Go.Proofs.Ytifijboegibchaa.wireSizes
open Go Go.Eng Go.ChangeShapes Go.WideShapes Go.ChangeAt Go.RowKit Go.Proofs.Ytifijboegibchaa.M
set_option linter.unusedVariables false
theorem own : ownKnob Try.prog.godebug = none := by kernel_rfl
theorem laidOut : laidOutB Try.prog = true := by kernel_rfl
set_option maxRecDepth 100000 in
theorem lifted (os : Os) (started : os.Started) (H : Type) (enc : TypeId × Value → H) :
    ReturnsInHanded {} Try.checked os 10 .any (Rows.wireSizesSpec.pre6 enc Try.prog Try.f10 Rows.wireSizesRow.domain false) (Rows.wireSizesSpec.post enc Try.prog Try.f10 false true false false) := by
  refine returnsInHanded_of_change_sized (C := Try.checked) own started (by kernel_rfl) Try.func10
    (ChangeSpec.witness6 (enc := enc) (C := Try.checked) false ⟨#[], #[.agg #[.slice none 0 0, .slice none 0 0]], []⟩ 8 (by kernel_rfl) (by kernel_rfl) (by kernel_rfl) (by kernel_rfl)) ?_
  intro W base args ds gs before hval0 hW hcnd hsz0 _
  have hsz : (DataW.weightsEach Try.prog (Try.f10.params.toList ++ Rows.wireSizesSpec.plain.varTypes Try.prog) (ds ++ gs)).all (· ≤ reachBytes) = true := hsz0
  have hval : ∀ (j : Nat) t v, Try.f10.params[j]? = some t → args[j]? = some v → Value.okWide Try.prog W .any base t v := hval0
  have hW' := hW
  obtain ⟨p, q, hA0, hV, rfl, hfz, hnd⟩ := hW
  have hA : DataW.TrodAll enc Try.prog W 0 (fun _ => true) true Try.f10.params.toList args.toList ds p := hA0
  rw [Try.params10] at hA hval hsz
  obtain ⟨v0, vs0, d0, ds0, p0, q0, hargs, rfl, rfl, h0, r0⟩ := trodAll_cons hA
  obtain ⟨rfl, rfl, rfl⟩ := trodAll_nil r0
  obtain rfl : args = #[v0] := by cases args; simp_all
  obtain ⟨rfl, rfl⟩ := trodVars_none hV
  have k0 := h0
  have lt0 : ∀ x ∈ p0, x.block < W.heap.size := by obtain ⟨m, hm⟩ := k0; exact DataW.trod_lt m _ _ _ hm
  obtain ⟨a0, b0, o0⟩ := opn37.arg h0 hsz (j := 0) rfl rfl
  obtain ⟨cs0, rfl⟩ := okWide_agg Try.underlying37 rfl (hval 0 37 v0 rfl rfl)
  obtain ⟨u0_0, u0_1, e0, s0_0, s0_1⟩ := b0
  obtain rfl := arr_of e0
  clear hA0 hval0 hsz0 hsz
  refine (law04_WireSizes.calls a0 (hpOf_sub W) s0_0 s0_1 (WireSizes_pure a0 o0)).mono fun e W' ⟨he, bel0⟩ => ?_
  subst he
  have bel := bel0.to
  exact ⟨_, rfl, _, _, _, [], _, [], hW', trodAll_mk1 (shut_bool Try.underlying4 _), (trodAll_cons_mk (Below.trod laidOut (by kernel_rfl) (of_decide_eq_true (by kernel_rfl)) k0 bel lt0) trodAll_mk0), rfl, bel.frame _, fun h => by cases h⟩
theorem over : Rows.wireSizesRow.holds Try.pinned (OpenSpec.ofChange Rows.wireSizesSpec) :=
  OpenClaim.holds_of_wide 10 Try.f10 rfl rfl rfl rfl rfl rfl rfl ⟨rfl, rfl, rfl, rfl, rfl⟩ rfl rfl rfl rfl rfl (by kernel_rfl) Try.func10 (by kernel_rfl)
    (of_decide_eq_true (by kernel_rfl)) (by unfold Func.isWrapper; first | (rw [if_pos (by decide +kernel)]; kernel_rfl) | (rw [if_neg (by decide +kernel)]; exact ⟨rfl, rfl⟩))
    (fun os started H enc _ => lifted os started H enc)
end Go.Proofs.Ytifijboegibchaa.wireSizes
namespace Go.Proofs.Ytifijboegibchaa
theorem wireSizes_holds : Rows.WireSizesSaid := wireSizes.over
#print axioms wireSizes_holds
end Go.Proofs.Ytifijboegibchaa
