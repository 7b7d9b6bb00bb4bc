/- The law JoinNone holds: for every input the call answers true, and each argument reads as it did. No condition. -/
import Derived.Test.YtabdokppkcgdlaaRows
import Derived.Test.YtabdokppkcgdlaaWalkJoinNone
import Derived.Test.YtabdokppkcgdlaaOpn
import Derived.Test.YtabdokppkcgdlaaPLVs
import Derived.Test.YtabdokppkcgdlaaPLVo
import Derived.Test.YtabdokppkcgdlaaPLFd
import Derived.Test.YtabdokppkcgdlaaPLVc
import Derived.Test.YtabdokppkcgdlaaPLVv
import Derived.Test.YtabdokppkcgdlaaPLVw
import Derived.Test.YtabdokppkcgdlaaPLVr
import Derived.Test.YtabdokppkcgdlaaPLTs
import Derived.Test.YtabdokppkcgdlaaPLCl
import Derived.Test.YtabdokppkcgdlaaPLTc
import Derived.Test.YtabdokppkcgdlaaPLTr
import Derived.Test.YtabdokppkcgdlaaPLWn
import Derived.Test.YtabdokppkcgdlaaPLWs
import Derived.Test.YtabdokppkcgdlaaPLWo
import Derived.Test.YtabdokppkcgdlaaPL17a
import Derived.Test.YtabdokppkcgdlaaPL17b
import Derived.Test.YtabdokppkcgdlaaPL17c
import Derived.Test.YtabdokppkcgdlaaPL17d
import Derived.Test.YtabdokppkcgdlaaPL17e
namespace Go.Proofs.Ytabdokppkcgdlaa.joinNone
open Go Go.Eng Go.ChangeShapes Go.WideShapes Go.ChangeAt Go.RowKit Go.Proofs.Ytabdokppkcgdlaa.M
set_option linter.unusedVariables false
theorem own : ownKnob Try.prog.godebug = none := by kernel_rfl
theorem laidOut : laidOutB Try.prog = true := by kernel_rfl
set_option maxRecDepth 100000 in
theorem lifted (os : Os) (started : os.Started) (H : Type) (enc : TypeId × Value → H) :
    ReturnsInHanded {} Try.checked os 5 .any (Rows.joinNoneSpec.pre6 enc Try.prog Try.f5 Rows.joinNoneRow.domain false) (Rows.joinNoneSpec.post enc Try.prog Try.f5 false true false false) := by
  refine returnsInHanded_of_change_sized (C := Try.checked) own started (by kernel_rfl) Try.func5
    (ChangeSpec.witness6 (enc := enc) (C := Try.checked) false ⟨#[], #[.agg #[.slice none 0 0, .slice none 0 0]], []⟩ 8 (by kernel_rfl) (by kernel_rfl) (by kernel_rfl) (by kernel_rfl)) ?_
  intro W base args ds gs before hval0 hW hcnd hsz0 _
  have hsz : (DataW.weightsEach Try.prog (Try.f5.params.toList ++ Rows.joinNoneSpec.plain.varTypes Try.prog) (ds ++ gs)).all (· ≤ reachBytes) = true := hsz0
  have hval : ∀ (j : Nat) t v, Try.f5.params[j]? = some t → args[j]? = some v → Value.okWide Try.prog W .any base t v := hval0
  have hW' := hW
  obtain ⟨p, q, hA0, hV, rfl, hfz, hnd⟩ := hW
  have hA : DataW.TrodAll enc Try.prog W 0 (fun _ => true) true Try.f5.params.toList args.toList ds p := hA0
  rw [Try.params5] at hA hval hsz
  obtain ⟨v0, vs0, d0, ds0, p0, q0, hargs, rfl, rfl, h0, r0⟩ := trodAll_cons hA
  obtain ⟨rfl, rfl, rfl⟩ := trodAll_nil r0
  obtain rfl : args = #[v0] := by cases args; simp_all
  obtain ⟨rfl, rfl⟩ := trodVars_none hV
  have k0 := h0
  have lt0 : ∀ x ∈ p0, x.block < W.heap.size := by obtain ⟨m, hm⟩ := k0; exact DataW.trod_lt m _ _ _ hm
  obtain ⟨a0, b0, o0⟩ := opn25.arg h0 hsz (j := 0) rfl rfl
  obtain ⟨cs0, rfl⟩ := okWide_agg Try.underlying25 rfl (hval 0 25 v0 rfl rfl)
  obtain ⟨u0_0, u0_1, e0, s0_0, s0_1⟩ := b0
  obtain rfl := arr_of e0
  clear hA0 hval0 hsz hsz0
  refine (law17_JoinNone.calls a0 (hpOf_sub W) s0_0 s0_1 (JoinNone_pure a0 o0)).mono fun e W' ⟨he, bel0⟩ => ?_
  subst he
  have bel := bel0.to
  exact ⟨_, rfl, _, _, _, [], _, [], hW', trodAll_mk1 (shut_bool Try.underlying4 _), (trodAll_cons_mk (Below.trod laidOut (by kernel_rfl) (of_decide_eq_true (by kernel_rfl)) k0 bel lt0) trodAll_mk0), rfl, bel.frame _, fun h => by cases h⟩
theorem over : Rows.joinNoneRow.holds Try.pinned (OpenSpec.ofChange Rows.joinNoneSpec) :=
  OpenClaim.holds_of_wide 5 Try.f5 rfl rfl rfl rfl rfl rfl rfl ⟨rfl, rfl, rfl, rfl, rfl⟩ rfl rfl rfl rfl rfl (by kernel_rfl) Try.func5 (by kernel_rfl)
    (of_decide_eq_true (by kernel_rfl)) (by unfold Func.isWrapper; first | (rw [if_pos (by decide +kernel)]; kernel_rfl) | (rw [if_neg (by decide +kernel)]; exact ⟨rfl, rfl⟩))
    (fun os started H enc _ => lifted os started H enc)
end Go.Proofs.Ytabdokppkcgdlaa.joinNone
namespace Go.Proofs.Ytabdokppkcgdlaa
theorem joinNone_holds : Rows.JoinNoneSaid := joinNone.over
#print axioms joinNone_holds
end Go.Proofs.Ytabdokppkcgdlaa
