/- The law WireApart holds: for every input the call answers true, and each argument reads as it did. No condition. -/
import Derived.Test.YtifijboegibchaaRows
import Derived.Test.YtifijboegibchaaWalkWireApart
import Derived.Test.YtifijboegibchaaOpn
import Derived.Test.YtifijboegibchaaPLVs
import Derived.Test.YtifijboegibchaaPLVo
import Derived.Test.YtifijboegibchaaPLVv
import Derived.Test.YtifijboegibchaaPLVw
import Derived.Test.YtifijboegibchaaPLVr
import Derived.Test.YtifijboegibchaaPLCr
import Derived.Test.YtifijboegibchaaPLSm
import Derived.Test.YtifijboegibchaaPLWn
import Derived.Test.YtifijboegibchaaPLWs
import Derived.Test.YtifijboegibchaaPLWp
import Derived.Test.YtifijboegibchaaPLWt
import Derived.Test.YtifijboegibchaaPLWq
import Derived.Test.YtifijboegibchaaPLWx
import Derived.Test.YtifijboegibchaaPL04
namespace Go.Proofs.Ytifijboegibchaa.wireApart
open Go Go.Eng Go.ChangeShapes Go.WideShapes Go.ChangeAt Go.RowKit Go.Proofs.Ytifijboegibchaa.M
set_option linter.unusedVariables false
theorem own : ownKnob Try.prog.godebug = none := by kernel_rfl
theorem laidOut : laidOutB Try.prog = true := by kernel_rfl
set_option maxRecDepth 100000 in
theorem lifted (os : Os) (started : os.Started) (H : Type) (enc : TypeId × Value → H) :
    ReturnsInHanded {} Try.checked os 9 .any (Rows.wireApartSpec.pre6 enc Try.prog Try.f9 Rows.wireApartRow.domain false) (Rows.wireApartSpec.post enc Try.prog Try.f9 false true false false) := by
  refine returnsInHanded_of_change_sized (C := Try.checked) own started (by kernel_rfl) Try.func9
    (ChangeSpec.witness6 (enc := enc) (C := Try.checked) false ⟨#[], #[.agg #[.slice none 0 0, .slice none 0 0], .agg #[.slice none 0 0, .slice none 0 0]], []⟩ 8 (by kernel_rfl) (by kernel_rfl) (by kernel_rfl) (by kernel_rfl)) ?_
  intro W base args ds gs before hval0 hW hcnd hsz0 _
  have hsz : (DataW.weightsEach Try.prog (Try.f9.params.toList ++ Rows.wireApartSpec.plain.varTypes Try.prog) (ds ++ gs)).all (· ≤ reachBytes) = true := hsz0
  have hval : ∀ (j : Nat) t v, Try.f9.params[j]? = some t → args[j]? = some v → Value.okWide Try.prog W .any base t v := hval0
  have hW' := hW
  obtain ⟨p, q, hA0, hV, rfl, hfz, hnd⟩ := hW
  have hA : DataW.TrodAll enc Try.prog W 0 (fun _ => true) true Try.f9.params.toList args.toList ds p := hA0
  rw [Try.params9] at hA hval hsz
  obtain ⟨v0, vs0, d0, ds0, p0, q0, hargs, rfl, rfl, h0, r0⟩ := trodAll_cons hA
  obtain ⟨v1, vs1, d1, ds1, p1, q1, rfl, rfl, rfl, h1, r1⟩ := trodAll_cons r0
  obtain ⟨rfl, rfl, rfl⟩ := trodAll_nil r1
  obtain rfl : args = #[v0, v1] := by cases args; simp_all
  obtain ⟨rfl, rfl⟩ := trodVars_none hV
  have k0 := h0
  have lt0 : ∀ x ∈ p0, x.block < W.heap.size := by obtain ⟨m, hm⟩ := k0; exact DataW.trod_lt m _ _ _ hm
  obtain ⟨a0, b0, o0⟩ := opn37.arg h0 hsz (j := 0) rfl rfl
  obtain ⟨cs0, rfl⟩ := okWide_agg Try.underlying37 rfl (hval 0 37 v0 rfl rfl)
  obtain ⟨u0_0, u0_1, e0, s0_0, s0_1⟩ := b0
  obtain rfl := arr_of e0
  have k1 := h1
  have lt1 : ∀ x ∈ p1, x.block < W.heap.size := by obtain ⟨m, hm⟩ := k1; exact DataW.trod_lt m _ _ _ hm
  obtain ⟨a1, b1, o1⟩ := opn37.arg h1 hsz (j := 1) rfl rfl
  obtain ⟨cs1, rfl⟩ := okWide_agg Try.underlying37 rfl (hval 1 37 v1 rfl rfl)
  obtain ⟨u1_0, u1_1, e1, s1_0, s1_1⟩ := b1
  obtain rfl := arr_of e1
  clear hA0 hval0 hsz0 hsz
  refine (law04_WireApart.calls a0 a1 (hpOf_sub W) s0_0 s0_1 s1_0 s1_1 (WireApart_pure a0 o0 a1 o1)).mono fun e W' ⟨he, bel0⟩ => ?_
  subst he
  have bel := bel0.to
  exact ⟨_, rfl, _, _, _, [], _, [], hW', trodAll_mk1 (shut_bool Try.underlying4 _), (trodAll_cons_mk (Below.trod laidOut (by kernel_rfl) (of_decide_eq_true (by kernel_rfl)) k0 bel lt0) (trodAll_cons_mk (Below.trod laidOut (by kernel_rfl) (of_decide_eq_true (by kernel_rfl)) k1 bel lt1) trodAll_mk0)), rfl, bel.frame _, fun h => by cases h⟩
theorem over : Rows.wireApartRow.holds Try.pinned (OpenSpec.ofChange Rows.wireApartSpec) :=
  OpenClaim.holds_of_wide 9 Try.f9 rfl rfl rfl rfl rfl rfl rfl ⟨rfl, rfl, rfl, rfl, rfl⟩ rfl rfl rfl rfl rfl (by kernel_rfl) Try.func9 (by kernel_rfl)
    (of_decide_eq_true (by kernel_rfl)) (by unfold Func.isWrapper; first | (rw [if_pos (by decide +kernel)]; kernel_rfl) | (rw [if_neg (by decide +kernel)]; exact ⟨rfl, rfl⟩))
    (fun os started H enc _ => lifted os started H enc)
end Go.Proofs.Ytifijboegibchaa.wireApart
namespace Go.Proofs.Ytifijboegibchaa
theorem wireApart_holds : Rows.WireApartSaid := wireApart.over
#print axioms wireApart_holds
end Go.Proofs.Ytifijboegibchaa
