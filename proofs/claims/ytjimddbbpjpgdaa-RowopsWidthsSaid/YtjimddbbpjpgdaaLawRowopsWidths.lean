/- The law RowopsWidths holds: for every input the call answers true, and each argument reads as it did. No condition. -/
import Derived.Test.YtjimddbbpjpgdaaRows
import Derived.Test.YtjimddbbpjpgdaaWalkRowopsWidths
import Derived.Test.YtjimddbbpjpgdaaOpn
import Derived.Test.YtjimddbbpjpgdaaPLVs
import Derived.Test.YtjimddbbpjpgdaaPLVo
import Derived.Test.YtjimddbbpjpgdaaPLVc
import Derived.Test.YtjimddbbpjpgdaaPLVv
import Derived.Test.YtjimddbbpjpgdaaPLVw
import Derived.Test.YtjimddbbpjpgdaaPLVr
import Derived.Test.YtjimddbbpjpgdaaPLTs
import Derived.Test.YtjimddbbpjpgdaaPLTc
import Derived.Test.YtjimddbbpjpgdaaPLTd
import Derived.Test.YtjimddbbpjpgdaaPL16a
import Derived.Test.YtjimddbbpjpgdaaPL16b
namespace Go.Proofs.Ytjimddbbpjpgdaa.rowopsWidths
open Go Go.Eng Go.ChangeShapes Go.WideShapes Go.ChangeAt Go.RowKit Go.Proofs.Ytjimddbbpjpgdaa.M
set_option linter.unusedVariables false
theorem own : ownKnob Try.prog.godebug = none := by kernel_rfl
theorem laidOut : laidOutB Try.prog = true := by kernel_rfl
set_option maxRecDepth 100000 in
theorem lifted (os : Os) (started : os.Started) (H : Type) (enc : TypeId × Value → H) :
    ReturnsInHanded {} Try.checked os 7 .any (Rows.rowopsWidthsSpec.pre6 enc Try.prog Try.f7 Rows.rowopsWidthsRow.domain false) (Rows.rowopsWidthsSpec.post enc Try.prog Try.f7 false true false false) := by
  refine returnsInHanded_of_change_sized (C := Try.checked) own started (by kernel_rfl) Try.func7
    (ChangeSpec.witness6 (enc := enc) (C := Try.checked) false ⟨#[], #[.slice none 0 0, .int .i64 0], []⟩ 8 (by kernel_rfl) (by kernel_rfl) (by kernel_rfl) (by kernel_rfl)) ?_
  intro W base args ds gs before hval0 hW hcnd hsz0 _
  have hsz : (DataW.weightsEach Try.prog (Try.f7.params.toList ++ Rows.rowopsWidthsSpec.plain.varTypes Try.prog) (ds ++ gs)).all (· ≤ reachBytes) = true := hsz0
  have hval : ∀ (j : Nat) t v, Try.f7.params[j]? = some t → args[j]? = some v → Value.okWide Try.prog W .any base t v := hval0
  have hW' := hW
  obtain ⟨p, q, hA0, hV, rfl, hfz, hnd⟩ := hW
  have hA : DataW.TrodAll enc Try.prog W 0 (fun _ => true) true Try.f7.params.toList args.toList ds p := hA0
  rw [Try.params7] at hA hval hsz
  obtain ⟨v0, vs0, d0, ds0, p0, q0, hargs, rfl, rfl, h0, r0⟩ := trodAll_cons hA
  obtain ⟨v1, vs1, d1, ds1, p1, q1, rfl, rfl, rfl, h1, r1⟩ := trodAll_cons r0
  obtain ⟨rfl, rfl, rfl⟩ := trodAll_nil r1
  obtain rfl : args = #[v0, v1] := by cases args; simp_all
  obtain ⟨rfl, rfl⟩ := trodVars_none hV
  have k0 := h0
  have lt0 : ∀ x ∈ p0, x.block < W.heap.size := by obtain ⟨m, hm⟩ := k0; exact DataW.trod_lt m _ _ _ hm
  obtain ⟨a0, b0, o0⟩ := opn47.arg h0 hsz (j := 0) rfl rfl
  rw [okWide_one Try.underlying47 rfl (hval 0 47 v0 rfl rfl)] at b0
  obtain ⟨u0, e0, s0⟩ := b0
  obtain rfl := (List.cons.inj e0).1
  have k1 := h1
  have lt1 : ∀ x ∈ p1, x.block < W.heap.size := by obtain ⟨m, hm⟩ := k1; exact DataW.trod_lt m _ _ _ hm
  obtain ⟨a1, b1, o1⟩ := opn3.arg h1 hsz (j := 1) rfl rfl
  rw [okWide_one Try.underlying3 rfl (hval 1 3 v1 rfl rfl)] at b1
  obtain rfl := (List.cons.inj (show [v1] = [.int .i64 a1] from b1)).1
  clear hA0 hval0 hsz0 hsz
  refine (law16_RowopsWidths.calls a0 a1 (hpOf_sub W) s0 (RowopsWidths_pure a0 o0 a1 o1)).mono fun e W' ⟨he, bel0⟩ => ?_
  subst he
  have bel := bel0.to
  exact ⟨_, rfl, _, _, _, [], _, [], hW', trodAll_mk1 (shut_bool Try.underlying4 _), (trodAll_cons_mk (Below.trod laidOut (by kernel_rfl) (of_decide_eq_true (by kernel_rfl)) k0 bel lt0) (trodAll_cons_mk (Below.trod laidOut (by kernel_rfl) (of_decide_eq_true (by kernel_rfl)) k1 bel lt1) trodAll_mk0)), rfl, bel.frame _, fun h => by cases h⟩
theorem over : Rows.rowopsWidthsRow.holds Try.pinned (OpenSpec.ofChange Rows.rowopsWidthsSpec) :=
  OpenClaim.holds_of_wide 7 Try.f7 rfl rfl rfl rfl rfl rfl rfl ⟨rfl, rfl, rfl, rfl, rfl⟩ rfl rfl rfl rfl rfl (by kernel_rfl) Try.func7 (by kernel_rfl)
    (of_decide_eq_true (by kernel_rfl)) (by unfold Func.isWrapper; first | (rw [if_pos (by decide +kernel)]; kernel_rfl) | (rw [if_neg (by decide +kernel)]; exact ⟨rfl, rfl⟩))
    (fun os started H enc _ => lifted os started H enc)
end Go.Proofs.Ytjimddbbpjpgdaa.rowopsWidths
namespace Go.Proofs.Ytjimddbbpjpgdaa
theorem rowopsWidths_holds : Rows.RowopsWidthsSaid := rowopsWidths.over
#print axioms rowopsWidths_holds
end Go.Proofs.Ytjimddbbpjpgdaa
