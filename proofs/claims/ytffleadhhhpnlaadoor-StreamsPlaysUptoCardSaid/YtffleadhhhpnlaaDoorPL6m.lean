/- Streams of a small bulk: the laws. -/
import Derived.Test.YtffleadhhhpnlaaDoorPL6d
import Derived.Test.YtffleadhhhpnlaaDoorOpnM
namespace Go.Proofs.YtffleadhhhpnlaaDoor.M
open Go Go.Eng Go.Proofs Go.RowKit
set_option linter.unusedVariables false

theorem okL_of {l : List catchmentlaw06_Stream} (h : l.length ≤ 1048576 ∧ ∀ x ∈ l, okm_catchmentlaw06_Stream x) : okL l :=
  ⟨h.1, fun x hx => ⟨(h.2 x hx).1, (h.2 x hx).2.1, fun v hv => ⟨i64_range ((h.2 x hx).2.2 v hv).2.1, fun y hy => i64_range (((h.2 x hx).2.2 v hv).2.2.2 y hy)⟩⟩⟩
theorem StreamsStay_upto (l : List catchmentlaw06_Stream) (ol : l.length ≤ 1048576 ∧ ∀ x ∈ l, okm_catchmentlaw06_Stream x) : law06_StreamsStay l = some true := StreamsStay_core l (okL_of ol)
theorem StreamsRoom_upto (m : Int) (om : (Lit.int .i64 m).wf = true) (l : List catchmentlaw06_Stream) (ol : l.length ≤ 1048576 ∧ ∀ x ∈ l, okm_catchmentlaw06_Stream x) : law06_StreamsRoom m l = some true := StreamsRoom_core m l (okL_of ol)
theorem StreamsPlays_upto (m : Int) (om : (Lit.int .i64 m).wf = true) (l : List catchmentlaw06_Stream) (ol : l.length ≤ 1048576 ∧ ∀ x ∈ l, okm_catchmentlaw06_Stream x) : law06_StreamsPlays m l = some true := StreamsPlays_core m l (okL_of ol)
end Go.Proofs.YtffleadhhhpnlaaDoor.M
