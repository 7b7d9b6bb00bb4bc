/- The law RowopsTops holds: for every input the call answers true, and each argument reads as it did. No condition. -/
import Derived.Test.YtjimddbbpjpgdaaRows
import Derived.Test.YtjimddbbpjpgdaaWalkRowopsTops
import Derived.Test.YtjimddbbpjpgdaaOpn
import Derived.Test.YtjimddbbpjpgdaaPLVs
import Derived.Test.YtjimddbbpjpgdaaPLVo
import Derived.Test.YtjimddbbpjpgdaaPLFd
import Derived.Test.YtjimddbbpjpgdaaPLVc
import Derived.Test.YtjimddbbpjpgdaaPLVv
import Derived.Test.YtjimddbbpjpgdaaPLVw
import Derived.Test.YtjimddbbpjpgdaaPLVr
import Derived.Test.YtjimddbbpjpgdaaPLTs
import Derived.Test.YtjimddbbpjpgdaaPLCl
import Derived.Test.YtjimddbbpjpgdaaPLTc
import Derived.Test.YtjimddbbpjpgdaaPLTe
import Derived.Test.YtjimddbbpjpgdaaPLTd
import Derived.Test.YtjimddbbpjpgdaaPL16a
import Derived.Test.YtjimddbbpjpgdaaPL16b
import Derived.Test.YtjimddbbpjpgdaaPLHd
import Derived.Test.YtjimddbbpjpgdaaPLHe
import Derived.Test.YtjimddbbpjpgdaaPLHf
import Derived.Test.YtjimddbbpjpgdaaPL16c
import Derived.Test.YtjimddbbpjpgdaaPL16s
import Derived.Test.YtjimddbbpjpgdaaPL16u
import Derived.Test.YtjimddbbpjpgdaaPL16m
import Derived.Test.YtjimddbbpjpgdaaPL16n
import Derived.Test.YtjimddbbpjpgdaaPL16d
import Derived.Test.YtjimddbbpjpgdaaPL16e
import Derived.Test.YtjimddbbpjpgdaaPL16f
namespace Go.Proofs.Ytjimddbbpjpgdaa.rowopsTops
open Go Go.Eng Go.ChangeShapes Go.WideShapes Go.ChangeAt Go.RowKit Go.Proofs.Ytjimddbbpjpgdaa.M
set_option linter.unusedVariables false
theorem own : ownKnob Try.prog.godebug = none := by kernel_rfl
theorem laidOut : laidOutB Try.prog = true := by kernel_rfl
set_option maxRecDepth 100000 in
theorem lifted (os : Os) (started : os.Started) (H : Type) (enc : TypeId × Value → H) :
    ReturnsInHanded {} Try.checked os 4 .any (Rows.rowopsTopsSpec.pre6 enc Try.prog Try.f4 Rows.rowopsTopsRow.domain false) (Rows.rowopsTopsSpec.post enc Try.prog Try.f4 false true false false) := by
  refine returnsInHanded_of_change_sized (C := Try.checked) own started (by kernel_rfl) Try.func4
    (ChangeSpec.witness6 (enc := enc) (C := Try.checked) false ⟨#[], #[.agg #[.slice none 0 0, .slice none 0 0], .int .i64 0, .string (⟨#[]⟩ : ByteArray)], []⟩ 8 (by kernel_rfl) (by kernel_rfl) (by kernel_rfl) (by kernel_rfl)) ?_
  intro W base args ds gs before hval0 hW hcnd hsz0 _
  have hsz : (DataW.weightsEach Try.prog (Try.f4.params.toList ++ Rows.rowopsTopsSpec.plain.varTypes Try.prog) (ds ++ gs)).all (· ≤ reachBytes) = true := hsz0
  have hval : ∀ (j : Nat) t v, Try.f4.params[j]? = some t → args[j]? = some v → Value.okWide Try.prog W .any base t v := hval0
  have hW' := hW
  obtain ⟨p, q, hA0, hV, rfl, hfz, hnd⟩ := hW
  have hA : DataW.TrodAll enc Try.prog W 0 (fun _ => true) true Try.f4.params.toList args.toList ds p := hA0
  rw [Try.params4] at hA hval hsz
  obtain ⟨v0, vs0, d0, ds0, p0, q0, hargs, rfl, rfl, h0, r0⟩ := trodAll_cons hA
  obtain ⟨v1, vs1, d1, ds1, p1, q1, rfl, rfl, rfl, h1, r1⟩ := trodAll_cons r0
  obtain ⟨v2, vs2, d2, ds2, p2, q2, rfl, rfl, rfl, h2, r2⟩ := trodAll_cons r1
  obtain ⟨rfl, rfl, rfl⟩ := trodAll_nil r2
  obtain rfl : args = #[v0, v1, v2] := by cases args; simp_all
  obtain ⟨rfl, rfl⟩ := trodVars_none hV
  have k0 := h0
  have lt0 : ∀ x ∈ p0, x.block < W.heap.size := by obtain ⟨m, hm⟩ := k0; exact DataW.trod_lt m _ _ _ hm
  obtain ⟨a0, b0, o0⟩ := opn25.arg h0 hsz (j := 0) rfl rfl
  obtain ⟨cs0, rfl⟩ := okWide_agg Try.underlying25 rfl (hval 0 25 v0 rfl rfl)
  obtain ⟨u0_0, u0_1, e0, s0_0, s0_1⟩ := b0
  obtain rfl := arr_of e0
  have k1 := h1
  have lt1 : ∀ x ∈ p1, x.block < W.heap.size := by obtain ⟨m, hm⟩ := k1; exact DataW.trod_lt m _ _ _ hm
  obtain ⟨a1, b1, o1⟩ := opn3.arg h1 hsz (j := 1) rfl rfl
  rw [okWide_one Try.underlying3 rfl (hval 1 3 v1 rfl rfl)] at b1
  obtain rfl := (List.cons.inj (show [v1] = [.int .i64 a1] from b1)).1
  have k2 := h2
  have lt2 : ∀ x ∈ p2, x.block < W.heap.size := by obtain ⟨m, hm⟩ := k2; exact DataW.trod_lt m _ _ _ hm
  obtain ⟨a2, b2, o2⟩ := opn9.arg h2 hsz (j := 2) rfl rfl
  rw [okWide_one Try.underlying9 rfl (hval 2 9 v2 rfl rfl)] at b2
  obtain rfl := (List.cons.inj (show [v2] = [.string a2] from b2)).1
  clear hA0 hval0 hsz hsz0
  refine (law16_RowopsTops.calls a0 a1 a2 (hpOf_sub W) s0_0 s0_1 (RowopsTops_pure a0 o0 a1 o1 a2 o2)).mono fun e W' ⟨he, bel0⟩ => ?_
  subst he
  have bel := bel0.to
  exact ⟨_, rfl, _, _, _, [], _, [], hW', trodAll_mk1 (shut_bool Try.underlying4 _), (trodAll_cons_mk (Below.trod laidOut (by kernel_rfl) (of_decide_eq_true (by kernel_rfl)) k0 bel lt0) (trodAll_cons_mk (Below.trod laidOut (by kernel_rfl) (of_decide_eq_true (by kernel_rfl)) k1 bel lt1) (trodAll_cons_mk (Below.trod laidOut (by kernel_rfl) (of_decide_eq_true (by kernel_rfl)) k2 bel lt2) trodAll_mk0))), rfl, bel.frame _, fun h => by cases h⟩
theorem over : Rows.rowopsTopsRow.holds Try.pinned (OpenSpec.ofChange Rows.rowopsTopsSpec) :=
  OpenClaim.holds_of_wide 4 Try.f4 rfl rfl rfl rfl rfl rfl rfl ⟨rfl, rfl, rfl, rfl, rfl⟩ rfl rfl rfl rfl rfl (by kernel_rfl) Try.func4 (by kernel_rfl)
    (of_decide_eq_true (by kernel_rfl)) (by unfold Func.isWrapper; first | (rw [if_pos (by decide +kernel)]; kernel_rfl) | (rw [if_neg (by decide +kernel)]; exact ⟨rfl, rfl⟩))
    (fun os started H enc _ => lifted os started H enc)
end Go.Proofs.Ytjimddbbpjpgdaa.rowopsTops
namespace Go.Proofs.Ytjimddbbpjpgdaa
theorem rowopsTops_holds : Rows.RowopsTopsSaid := rowopsTops.over
#print axioms rowopsTops_holds
end Go.Proofs.Ytjimddbbpjpgdaa
