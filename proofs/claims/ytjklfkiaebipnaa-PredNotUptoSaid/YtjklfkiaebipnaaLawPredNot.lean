/- The law PredNot holds: for every input of bulk at most 1048576 the call answers true, and each argument reads as it did. Condition: that bound on the bulk, as the form states it. -/
import Derived.HandedShaped
import Derived.Shelf.Vars
import Derived.Test.YtjklfkiaebipnaaRows
import Derived.Test.YtjklfkiaebipnaaWalkPredNot
import Derived.Test.YtjklfkiaebipnaaOpnM
import Derived.Test.YtjklfkiaebipnaaPLVs
import Derived.Test.YtjklfkiaebipnaaPLVo
import Derived.Test.YtjklfkiaebipnaaPLFd
import Derived.Test.YtjklfkiaebipnaaPLVc
import Derived.Test.YtjklfkiaebipnaaPLVw
import Derived.Test.YtjklfkiaebipnaaPLVr
import Derived.Test.YtjklfkiaebipnaaPLTs
import Derived.Test.YtjklfkiaebipnaaPLCl
import Derived.Test.YtjklfkiaebipnaaPLTe
import Derived.Test.YtjklfkiaebipnaaPLHd
import Derived.Test.YtjklfkiaebipnaaPLHe
import Derived.Test.YtjklfkiaebipnaaPLHf
import Derived.Test.YtjklfkiaebipnaaPL15a
import Derived.Test.YtjklfkiaebipnaaPL15b
import Derived.Test.YtjklfkiaebipnaaPL15d
import Derived.Test.YtjklfkiaebipnaaPL15e
import Derived.Test.YtjklfkiaebipnaaPL15f
import Derived.Test.YtjklfkiaebipnaaPL15g
import Derived.Test.YtjklfkiaebipnaaPL15h
import Derived.Test.YtjklfkiaebipnaaPL15i
import Derived.Test.YtjklfkiaebipnaaPL15j
import Derived.Test.YtjklfkiaebipnaaPL15k
namespace Go.Proofs.Ytjklfkiaebipnaa.predNot
open Go Go.Eng Go.ChangeShapes Go.WideShapes Go.ChangeAt Go.RowKit Go.Proofs.Ytjklfkiaebipnaa.M
set_option linter.unusedVariables false
theorem own : ownKnob Try.prog.godebug = none := by kernel_rfl
theorem laidOut : laidOutB Try.prog = true := by kernel_rfl
set_option maxRecDepth 100000 in
theorem lifted (os : Os) (started : os.Started) (H : Type) (enc : TypeId × Value → H) (F : Stop.Interp) :
    ReturnsInHanded {} Try.checked os 5 .any ((Rows.OpenSpec.upto Rows.predNotSpec).pre6 enc Try.prog Try.f5 Rows.predNotUptoRow.domain false) (((Rows.OpenSpec.upto Rows.predNotSpec).at F).post enc Try.prog Try.f5 false true false false) := by
  refine upto_all (C := Try.checked) (s := (Rows.OpenSpec.upto Rows.predNotSpec)) (k := Rows.uptoSmall) rfl own started (by kernel_rfl) Try.func5
    (OpenSpec.witness (enc := enc) (C := Try.checked) (s := (Rows.OpenSpec.upto Rows.predNotSpec)) (k := Rows.uptoSmall) rfl false ⟨#[], #[.string (⟨#[]⟩ : ByteArray), .agg #[.slice none 0 0, .slice none 0 0]], []⟩ 8 (by kernel_rfl) (by kernel_rfl) (by kernel_rfl) (x := ([.lit (.string []), .agg [.nil, .nil]], [], [])) (by kernel_rfl) rfl (by kernel_rfl)) ?_
  intro W base args ds gs before hval0 hW hk hsh
  obtain ⟨gm_, hgm⟩ := cell_of_shapedOpen_int (P := Try.prog) (g := 0) (t := 3) (zero := #[.int .i64 0]) hsh (of_decide_eq_true (by kernel_rfl)) (by kernel_rfl) rfl (by kernel_rfl) (by kernel_rfl) Try.underlying3
  have hGF : GF (hpOf W) := fun w hw => ⟨gm_, hw.cell (hp_cell hgm)⟩
  have hsz := hk
  have hval : ∀ (j : Nat) t v, Try.f5.params[j]? = some t → args[j]? = some v → Value.okWide Try.prog W .any base t v := hval0
  have hW' := hW
  obtain ⟨p, q, hA0, hV, rfl, hfz, hnd⟩ := hW
  have hA : DataW.TrodAll enc Try.prog W 0 (fun _ => true) true Try.f5.params.toList args.toList ds p := hA0
  rw [Try.params5] at hA hval
  obtain ⟨v0, vs0, d0, ds0, p0, q0, hargs, rfl, rfl, h0, r0⟩ := trodAll_cons hA
  obtain ⟨v1, vs1, d1, ds1, p1, q1, rfl, rfl, rfl, h1, r1⟩ := trodAll_cons r0
  obtain ⟨rfl, rfl, rfl⟩ := trodAll_nil r1
  obtain rfl : args = #[v0, v1] := by cases args; simp_all
  obtain ⟨rfl, rfl⟩ := trodVars_none hV
  have k0 := h0
  have lt0 : ∀ x ∈ p0, x.block < W.heap.size := by obtain ⟨m, hm⟩ := k0; exact DataW.trod_lt m _ _ _ hm
  obtain ⟨a0, b0, o0⟩ := opm9.arg h0 (small_of hsz (by simp))
  rw [okWide_one Try.underlying9 rfl (hval 0 9 v0 rfl rfl)] at b0
  obtain rfl := (List.cons.inj (show [v0] = [.string a0] from b0)).1
  have k1 := h1
  have lt1 : ∀ x ∈ p1, x.block < W.heap.size := by obtain ⟨m, hm⟩ := k1; exact DataW.trod_lt m _ _ _ hm
  obtain ⟨a1, b1, o1⟩ := opm28.arg h1 (small_of hsz (by simp))
  obtain ⟨cs1, rfl⟩ := okWide_agg Try.underlying28 rfl (hval 1 28 v1 rfl rfl)
  obtain ⟨u1_0, u1_1, e1, s1_0, s1_1⟩ := b1
  obtain rfl := arr_of e1
  clear hA0 hval0 hsz
  refine (law15_PredNot.calls a0 a1 (hpOf_sub W) (hpOf_sub W) s1_0 s1_1 hGF (PredNot_upto a0 o0 a1 o1)).mono fun e W' ⟨he, bel0⟩ => ?_
  subst he
  have bel := bel0.to
  exact ⟨_, rfl, (show Rows.predNotSpec.post enc Try.prog Try.f5 false true false false W _ _ _ from ⟨_, _, _, [], _, [], hW', trodAll_mk1 (shut_bool Try.underlying4 _), (trodAll_cons_mk (Below.trod laidOut (by kernel_rfl) (of_decide_eq_true (by kernel_rfl)) k0 bel lt0) (trodAll_cons_mk (Below.trod laidOut (by kernel_rfl) (of_decide_eq_true (by kernel_rfl)) k1 bel lt1) trodAll_mk0)), rfl, bel.frame _, fun h => by cases h⟩)⟩
theorem over : Rows.predNotUptoRow.holds Try.pinned (Rows.OpenSpec.upto Rows.predNotSpec) :=
  OpenClaim.holds_of_cond 5 Try.f5 rfl rfl rfl rfl rfl rfl rfl ⟨rfl, rfl, rfl, rfl, rfl⟩ rfl rfl rfl rfl rfl (by kernel_rfl) Try.func5 (by kernel_rfl)
    (of_decide_eq_true (by kernel_rfl)) (by unfold Func.isWrapper; first | (rw [if_pos (by decide +kernel)]; kernel_rfl) | (rw [if_neg (by decide +kernel)]; exact ⟨rfl, rfl⟩))
    (fun os started H enc _ F => lifted os started H enc F)
end Go.Proofs.Ytjklfkiaebipnaa.predNot
namespace Go.Proofs.Ytjklfkiaebipnaa
theorem predNot_holds : Rows.PredNotUptoSaid := predNot.over
#print axioms predNot_holds
end Go.Proofs.Ytjklfkiaebipnaa
