/- Values: the order of all of them, and of rows. -/
import Derived.Test.YtabdokppkcgdlaaPure
import Derived.Test.YtabdokppkcgdlaaEngQ
namespace Go.Proofs.Ytabdokppkcgdlaa.M
open Go Go.Eng Go.Proofs Go.RowKit
set_option maxRecDepth 100000
set_option linter.unusedVariables false
set_option linter.unusedSimpArgs false

def cmpV : api_Value → api_Value → Int := thenC (onC (·.Kind) ord3) (thenC (onC (·.N) ord3) (thenC (onC (fun v => sbytes v.S) (lexL ord3)) (onC (fun v => v.H.list) (lexL ord3))))
theorem cmpV_cmp : IsCmp cmpV := thenC_cmp (onC_cmp ord3_cmp) (thenC_cmp (onC_cmp ord3_cmp) (thenC_cmp (onC_cmp (lexL_cmp ord3_cmp)) (onC_cmp (lexL_cmp ord3_cmp))))
theorem thenC_zero {α : Type} {c1 c2 : α → α → Int} {x y : α} (h : thenC c1 c2 x y = 0) : c1 x y = 0 ∧ c2 x y = 0 := by
  unfold thenC at h
  by_cases e : c1 x y = 0
  · rw [if_pos e] at h; exact ⟨e, h⟩
  · rw [if_neg e] at h; exact absurd h e
theorem cmpV_zero (a b : api_Value) (h : cmpV a b = 0) : a = b := by
  unfold cmpV at h
  obtain ⟨h1, h⟩ := thenC_zero h
  obtain ⟨h2, h⟩ := thenC_zero h
  obtain ⟨h3, h4⟩ := thenC_zero h
  have e1 := ord3_zero h1
  have e2 := ord3_zero h2
  have e3 := sbytes_inj (lexL_zero (fun _ _ => ord3_zero) _ _ h3)
  have e4 := lexL_zero (fun _ _ => ord3_zero) _ _ h4
  obtain ⟨k, n, s, ⟨a0, a1, a2, a3, a4, a5, a6, a7⟩⟩ := a
  obtain ⟨k', n', s', ⟨b0, b1, b2, b3, b4, b5, b6, b7⟩⟩ := b
  simp only [Arr8.list, List.cons.injEq, and_true] at e1 e2 e3 e4 ⊢
  obtain ⟨rfl, rfl, rfl, rfl, rfl, rfl, rfl, rfl⟩ := e4
  subst e1; subst e2; subst e3; rfl
def cmpR : List api_Value → List api_Value → Int := lexL cmpV
theorem cmpR_cmp : IsCmp cmpR := lexL_cmp cmpV_cmp
theorem cmpR_zero (a b : List api_Value) (h : cmpR a b = 0) : a = b := lexL_zero cmpV_zero a b h
theorem cmpR_self (a : List api_Value) : cmpR a a = 0 := cmpR_cmp.refl a
def okV (v : api_Value) : Prop := v.S.size < 4611686018427387904
def okRow (r : List api_Value) : Prop := r.length < 4611686018427387904 ∧ ∀ v ∈ r, okV v
end Go.Proofs.Ytabdokppkcgdlaa.M
