/-
  No cell of these rows narrows 'for every input' (looked for: loops, veiled, ifaces, maps, wideKeys, modest, calm, conditions, laid).
  DERIVED. THE GIVEN ROWS OF THIS SEAT. 8 by the template 'for every input the law returns true; each argument reads behind the call as it read before'; 0 by the template 'total and deterministic' (their statements: YtojfckndloelpaaTotals.lean).
  GIVEN WITH THE SEED: the statements are not yours to turn. If you find one false, say at which input.
  Laid BY PROGRAM, IN A SANDBOX (cutbox-rows.mjs): the forced cells as the released guide's own fill.sh prints them over the translation 3c52a23688c54e70… (all of the seat's roots in one cut). By AI agents, Wed Nov 11 2026. No macro, syntax, notation, axiom, sorry.
-/
import Derived.Test.YtojfckndloelpaaChecked
import GoSem.Claim
import GoSem.ClaimJoined
import GoSem.ClaimMapViews
import Derived.JoinedTies
import Derived.KernelRfl
namespace Go.Proofs.Ytojfckndloelpaa
/- THE CELL 'sum', in the pinned program and in every row, IS THE sha256 OF THE DUMP (.gsa) THAT YtojfckndloelpaaProg.lean LOADS. Nothing in Lean hashes anything: it is a label: what it is worth is what the hold of that sum in a sandbox is worth. -/
noncomputable def Try.pinned : Pinned := { name := "ytojfckndloelpaa", sum := "3c52a23688c54e7050b55191b54ca0ca9982f4d926c192425571c836d8757617", checked := Try.checked }
namespace Rows
def none {H : Type} : Left H := { results := [], args := [] }

/-- 'catchmentlaw02.TableChecks': WHATEVER THE INPUT: true; the input reads as it did. -/
def tableChecksSpec : ChangeSpec := { name := "tableChecks", fn := fun _ => fun
  | [d1, d2] => { results := [.lit (.bool true)], args := [d1, d2] }
  | _ => none }
def tableChecksRow : OpenClaim := { program := "ytojfckndloelpaa", sum := "3c52a23688c54e7050b55191b54ca0ca9982f4d926c192425571c836d8757617", func := "catchment/catchmentlaw02.TableChecks", spec := "tableChecks", inPlace := ["internal/bytealg.abigen_runtime_cmpstring"], unfollowed := true, recurses := true, apart := false }
def TableChecksSaid : Prop := tableChecksRow.holds Try.pinned (OpenSpec.ofChange tableChecksSpec)

/-- ITS FALSE NEIGHBOUR: 'it returns false'. Refute it at one input. -/
def tableChecksWrong : ChangeSpec := { name := "tableChecks", fn := fun _ => fun
  | [d1, d2] => { results := [.lit (.bool false)], args := [d1, d2] }
  | _ => none }
def TableChecksWrongFalsely : Prop := tableChecksRow.holds Try.pinned (OpenSpec.ofChange tableChecksWrong)

/-- 'catchmentlaw02.TableCanon': WHATEVER THE INPUT: true; the input reads as it did. -/
def tableCanonSpec : ChangeSpec := { name := "tableCanon", fn := fun _ => fun
  | [d] => { results := [.lit (.bool true)], args := [d] }
  | _ => none }
def tableCanonRow : OpenClaim := { program := "ytojfckndloelpaa", sum := "3c52a23688c54e7050b55191b54ca0ca9982f4d926c192425571c836d8757617", func := "catchment/catchmentlaw02.TableCanon", spec := "tableCanon", inPlace := ["internal/bytealg.abigen_runtime_cmpstring"], unfollowed := true, recurses := true, apart := false }
def TableCanonSaid : Prop := tableCanonRow.holds Try.pinned (OpenSpec.ofChange tableCanonSpec)

/-- ITS FALSE NEIGHBOUR: 'it returns false'. Refute it at one input. -/
def tableCanonWrong : ChangeSpec := { name := "tableCanon", fn := fun _ => fun
  | [d] => { results := [.lit (.bool false)], args := [d] }
  | _ => none }
def TableCanonWrongFalsely : Prop := tableCanonRow.holds Try.pinned (OpenSpec.ofChange tableCanonWrong)

/-- 'catchmentlaw02.TableOrder': WHATEVER THE INPUT: true; the input reads as it did. -/
def tableOrderSpec : ChangeSpec := { name := "tableOrder", fn := fun _ => fun
  | [d1, d2] => { results := [.lit (.bool true)], args := [d1, d2] }
  | _ => none }
def tableOrderRow : OpenClaim := { program := "ytojfckndloelpaa", sum := "3c52a23688c54e7050b55191b54ca0ca9982f4d926c192425571c836d8757617", func := "catchment/catchmentlaw02.TableOrder", spec := "tableOrder", inPlace := ["internal/bytealg.abigen_runtime_cmpstring"], unfollowed := true, recurses := true, apart := false }
def TableOrderSaid : Prop := tableOrderRow.holds Try.pinned (OpenSpec.ofChange tableOrderSpec)

/-- ITS FALSE NEIGHBOUR: 'it returns false'. Refute it at one input. -/
def tableOrderWrong : ChangeSpec := { name := "tableOrder", fn := fun _ => fun
  | [d1, d2] => { results := [.lit (.bool false)], args := [d1, d2] }
  | _ => none }
def TableOrderWrongFalsely : Prop := tableOrderRow.holds Try.pinned (OpenSpec.ofChange tableOrderWrong)

/-- 'catchmentlaw02.TableSame': WHATEVER THE INPUT: true; the input reads as it did. -/
def tableSameSpec : ChangeSpec := { name := "tableSame", fn := fun _ => fun
  | [d1, d2] => { results := [.lit (.bool true)], args := [d1, d2] }
  | _ => none }
def tableSameRow : OpenClaim := { program := "ytojfckndloelpaa", sum := "3c52a23688c54e7050b55191b54ca0ca9982f4d926c192425571c836d8757617", func := "catchment/catchmentlaw02.TableSame", spec := "tableSame", inPlace := ["internal/bytealg.abigen_runtime_cmpstring"], unfollowed := true, recurses := true, apart := false }
def TableSameSaid : Prop := tableSameRow.holds Try.pinned (OpenSpec.ofChange tableSameSpec)

/-- ITS FALSE NEIGHBOUR: 'it returns false'. Refute it at one input. -/
def tableSameWrong : ChangeSpec := { name := "tableSame", fn := fun _ => fun
  | [d1, d2] => { results := [.lit (.bool false)], args := [d1, d2] }
  | _ => none }
def TableSameWrongFalsely : Prop := tableSameRow.holds Try.pinned (OpenSpec.ofChange tableSameWrong)

/-- 'catchmentlaw02.TableUnions': WHATEVER THE INPUT: true; the input reads as it did. -/
def tableUnionsSpec : ChangeSpec := { name := "tableUnions", fn := fun _ => fun
  | [d1, d2] => { results := [.lit (.bool true)], args := [d1, d2] }
  | _ => none }
def tableUnionsRow : OpenClaim := { program := "ytojfckndloelpaa", sum := "3c52a23688c54e7050b55191b54ca0ca9982f4d926c192425571c836d8757617", func := "catchment/catchmentlaw02.TableUnions", spec := "tableUnions", inPlace := ["internal/bytealg.abigen_runtime_cmpstring"], unfollowed := true, recurses := true, apart := false }
def TableUnionsSaid : Prop := tableUnionsRow.holds Try.pinned (OpenSpec.ofChange tableUnionsSpec)

/-- ITS FALSE NEIGHBOUR: 'it returns false'. Refute it at one input. -/
def tableUnionsWrong : ChangeSpec := { name := "tableUnions", fn := fun _ => fun
  | [d1, d2] => { results := [.lit (.bool false)], args := [d1, d2] }
  | _ => none }
def TableUnionsWrongFalsely : Prop := tableUnionsRow.holds Try.pinned (OpenSpec.ofChange tableUnionsWrong)

/-- 'catchmentlaw02.TableKeeps': WHATEVER THE INPUT: true; the input reads as it did. -/
def tableKeepsSpec : ChangeSpec := { name := "tableKeeps", fn := fun _ => fun
  | [d1, d2] => { results := [.lit (.bool true)], args := [d1, d2] }
  | _ => none }
def tableKeepsRow : OpenClaim := { program := "ytojfckndloelpaa", sum := "3c52a23688c54e7050b55191b54ca0ca9982f4d926c192425571c836d8757617", func := "catchment/catchmentlaw02.TableKeeps", spec := "tableKeeps", inPlace := ["internal/bytealg.abigen_runtime_cmpstring"], unfollowed := true, recurses := true, apart := false }
def TableKeepsSaid : Prop := tableKeepsRow.holds Try.pinned (OpenSpec.ofChange tableKeepsSpec)

/-- ITS FALSE NEIGHBOUR: 'it returns false'. Refute it at one input. -/
def tableKeepsWrong : ChangeSpec := { name := "tableKeeps", fn := fun _ => fun
  | [d1, d2] => { results := [.lit (.bool false)], args := [d1, d2] }
  | _ => none }
def TableKeepsWrongFalsely : Prop := tableKeepsRow.holds Try.pinned (OpenSpec.ofChange tableKeepsWrong)

/-- 'catchmentlaw02.TableAll': WHATEVER THE INPUT: true; the input reads as it did. -/
def tableAllSpec : ChangeSpec := { name := "tableAll", fn := fun _ => fun
  | [d1, d2] => { results := [.lit (.bool true)], args := [d1, d2] }
  | _ => none }
def tableAllRow : OpenClaim := { program := "ytojfckndloelpaa", sum := "3c52a23688c54e7050b55191b54ca0ca9982f4d926c192425571c836d8757617", func := "catchment/catchmentlaw02.TableAll", spec := "tableAll", inPlace := ["internal/bytealg.abigen_runtime_cmpstring"], unfollowed := true, recurses := true, apart := false }
def TableAllSaid : Prop := tableAllRow.holds Try.pinned (OpenSpec.ofChange tableAllSpec)

/-- ITS FALSE NEIGHBOUR: 'it returns false'. Refute it at one input. -/
def tableAllWrong : ChangeSpec := { name := "tableAll", fn := fun _ => fun
  | [d1, d2] => { results := [.lit (.bool false)], args := [d1, d2] }
  | _ => none }
def TableAllWrongFalsely : Prop := tableAllRow.holds Try.pinned (OpenSpec.ofChange tableAllWrong)

/-- 'catchmentlaw02.TableThree': WHATEVER THE INPUT: true; the input reads as it did. -/
def tableThreeSpec : ChangeSpec := { name := "tableThree", fn := fun _ => fun
  | [d1, d2] => { results := [.lit (.bool true)], args := [d1, d2] }
  | _ => none }
def tableThreeRow : OpenClaim := { program := "ytojfckndloelpaa", sum := "3c52a23688c54e7050b55191b54ca0ca9982f4d926c192425571c836d8757617", func := "catchment/catchmentlaw02.TableThree", spec := "tableThree", inPlace := ["internal/bytealg.abigen_runtime_cmpstring"], unfollowed := true, recurses := true, apart := false }
def TableThreeSaid : Prop := tableThreeRow.holds Try.pinned (OpenSpec.ofChange tableThreeSpec)

/-- ITS FALSE NEIGHBOUR: 'it returns false'. Refute it at one input. -/
def tableThreeWrong : ChangeSpec := { name := "tableThree", fn := fun _ => fun
  | [d1, d2] => { results := [.lit (.bool false)], args := [d1, d2] }
  | _ => none }
def TableThreeWrongFalsely : Prop := tableThreeRow.holds Try.pinned (OpenSpec.ofChange tableThreeWrong)

/- THE SECOND FORM. 'bulk': how many values and letters a reading holds, each counted each time it is reached (what is shared counts as often as it is met; a slice's spare places count too). A statement '..UptoSaid' is the law's where the arguments, and the package variables that the reading takes, are together of bulk at most 1048576: NARROWER than '..Said'. Prove '..Said' where nothing that the law and all that it calls make is longer than what came in: it says more and counts as full. Else prove '..UptoSaid'. A law counts once. -/
mutual
def uptoBulk {H : Type} : DataW H → Nat
  | .lit (.string bytes) => bytes.length + 1
  | .lit _ => 1
  | .nil => 1
  | .ptr d => uptoBulk d + 1
  | .slice elems spare => uptoBulkAll elems + uptoBulkAll spare + 1
  | .agg parts => uptoBulkAll parts + 1
  | .iface _ d => uptoBulk d + 1
  | .map entries => uptoBulkEntries entries + 1
  | .held _ => 1
def uptoBulkAll {H : Type} : List (DataW H) → Nat
  | [] => 0
  | d :: r => uptoBulk d + uptoBulkAll r
def uptoBulkEntries {H : Type} : List (Lit × DataW H) → Nat
  | [] => 0
  | x :: r => uptoBulkEntry x + uptoBulkEntries r
def uptoBulkEntry {H : Type} : Lit × DataW H → Nat
  | (.string bytes, d) => bytes.length + uptoBulk d + 1
  | (_, d) => uptoBulk d + 1
 end
def uptoSmall : (H : Type) → List (DataW H) → Bool := fun _ ds => decide (uptoBulkAll ds ≤ 1048576)
def OpenSpec.upto (s : _root_.Go.ChangeSpec) : _root_.Go.OpenSpec := { _root_.Go.OpenSpec.ofChange s with cond := some uptoSmall }

/-- 'catchmentlaw02.TableChecks', WHERE WHAT IT READS IS OF BULK AT MOST 1048576: true; the input reads as it did. -/
def tableChecksUptoRow : OpenClaim := { program := "ytojfckndloelpaa", sum := "3c52a23688c54e7050b55191b54ca0ca9982f4d926c192425571c836d8757617", func := "catchment/catchmentlaw02.TableChecks", spec := "tableChecks", inPlace := ["internal/bytealg.abigen_runtime_cmpstring"], unfollowed := true, recurses := true, apart := false, narrowed := true }
def TableChecksUptoSaid : Prop := tableChecksUptoRow.holds Try.pinned (OpenSpec.upto tableChecksSpec)

/-- 'catchmentlaw02.TableCanon', WHERE WHAT IT READS IS OF BULK AT MOST 1048576: true; the input reads as it did. -/
def tableCanonUptoRow : OpenClaim := { program := "ytojfckndloelpaa", sum := "3c52a23688c54e7050b55191b54ca0ca9982f4d926c192425571c836d8757617", func := "catchment/catchmentlaw02.TableCanon", spec := "tableCanon", inPlace := ["internal/bytealg.abigen_runtime_cmpstring"], unfollowed := true, recurses := true, apart := false, narrowed := true }
def TableCanonUptoSaid : Prop := tableCanonUptoRow.holds Try.pinned (OpenSpec.upto tableCanonSpec)

/-- 'catchmentlaw02.TableOrder', WHERE WHAT IT READS IS OF BULK AT MOST 1048576: true; the input reads as it did. -/
def tableOrderUptoRow : OpenClaim := { program := "ytojfckndloelpaa", sum := "3c52a23688c54e7050b55191b54ca0ca9982f4d926c192425571c836d8757617", func := "catchment/catchmentlaw02.TableOrder", spec := "tableOrder", inPlace := ["internal/bytealg.abigen_runtime_cmpstring"], unfollowed := true, recurses := true, apart := false, narrowed := true }
def TableOrderUptoSaid : Prop := tableOrderUptoRow.holds Try.pinned (OpenSpec.upto tableOrderSpec)

/-- 'catchmentlaw02.TableSame', WHERE WHAT IT READS IS OF BULK AT MOST 1048576: true; the input reads as it did. -/
def tableSameUptoRow : OpenClaim := { program := "ytojfckndloelpaa", sum := "3c52a23688c54e7050b55191b54ca0ca9982f4d926c192425571c836d8757617", func := "catchment/catchmentlaw02.TableSame", spec := "tableSame", inPlace := ["internal/bytealg.abigen_runtime_cmpstring"], unfollowed := true, recurses := true, apart := false, narrowed := true }
def TableSameUptoSaid : Prop := tableSameUptoRow.holds Try.pinned (OpenSpec.upto tableSameSpec)

/-- 'catchmentlaw02.TableUnions', WHERE WHAT IT READS IS OF BULK AT MOST 1048576: true; the input reads as it did. -/
def tableUnionsUptoRow : OpenClaim := { program := "ytojfckndloelpaa", sum := "3c52a23688c54e7050b55191b54ca0ca9982f4d926c192425571c836d8757617", func := "catchment/catchmentlaw02.TableUnions", spec := "tableUnions", inPlace := ["internal/bytealg.abigen_runtime_cmpstring"], unfollowed := true, recurses := true, apart := false, narrowed := true }
def TableUnionsUptoSaid : Prop := tableUnionsUptoRow.holds Try.pinned (OpenSpec.upto tableUnionsSpec)

/-- 'catchmentlaw02.TableKeeps', WHERE WHAT IT READS IS OF BULK AT MOST 1048576: true; the input reads as it did. -/
def tableKeepsUptoRow : OpenClaim := { program := "ytojfckndloelpaa", sum := "3c52a23688c54e7050b55191b54ca0ca9982f4d926c192425571c836d8757617", func := "catchment/catchmentlaw02.TableKeeps", spec := "tableKeeps", inPlace := ["internal/bytealg.abigen_runtime_cmpstring"], unfollowed := true, recurses := true, apart := false, narrowed := true }
def TableKeepsUptoSaid : Prop := tableKeepsUptoRow.holds Try.pinned (OpenSpec.upto tableKeepsSpec)

/-- 'catchmentlaw02.TableAll', WHERE WHAT IT READS IS OF BULK AT MOST 1048576: true; the input reads as it did. -/
def tableAllUptoRow : OpenClaim := { program := "ytojfckndloelpaa", sum := "3c52a23688c54e7050b55191b54ca0ca9982f4d926c192425571c836d8757617", func := "catchment/catchmentlaw02.TableAll", spec := "tableAll", inPlace := ["internal/bytealg.abigen_runtime_cmpstring"], unfollowed := true, recurses := true, apart := false, narrowed := true }
def TableAllUptoSaid : Prop := tableAllUptoRow.holds Try.pinned (OpenSpec.upto tableAllSpec)

/-- 'catchmentlaw02.TableThree', WHERE WHAT IT READS IS OF BULK AT MOST 1048576: true; the input reads as it did. -/
def tableThreeUptoRow : OpenClaim := { program := "ytojfckndloelpaa", sum := "3c52a23688c54e7050b55191b54ca0ca9982f4d926c192425571c836d8757617", func := "catchment/catchmentlaw02.TableThree", spec := "tableThree", inPlace := ["internal/bytealg.abigen_runtime_cmpstring"], unfollowed := true, recurses := true, apart := false, narrowed := true }
def TableThreeUptoSaid : Prop := tableThreeUptoRow.holds Try.pinned (OpenSpec.upto tableThreeSpec)

end Rows
end Go.Proofs.Ytojfckndloelpaa
