/- Layer 15: the plain laws of opposites, of both and of either, for what a machine holds. -/
import Derived.Test.YtjklfkiaebipnaaPure
import Derived.Test.YtjklfkiaebipnaaPL15b
import Derived.Test.YtjklfkiaebipnaaPL15j
namespace Go.Proofs.Ytjklfkiaebipnaa.M
open Go Go.Eng Go.Proofs Go.RowKit
set_option linter.unusedVariables false

theorem PredNot_upto (s : ByteArray) (os : s.size ≤ 1048576) (t : api_Table) (ot : okm_api_Table t) : law15_PredNot s t = some true :=
  PredNot_core (szT_of (okm_Table ot)).cut (cut_small (okm_small ot))
theorem PredMorgan_upto (s : ByteArray) (os : s.size ≤ 1048576) (u : ByteArray) (ou : u.size ≤ 1048576) (t : api_Table) (ot : okm_api_Table t) : law15_PredMorgan s u t = some true :=
  PredMorgan_core (szT_of (okm_Table ot)).cut (cut_small (okm_small ot))
theorem PredSides_upto (s : ByteArray) (os : s.size ≤ 1048576) (u : ByteArray) (ou : u.size ≤ 1048576) (t : api_Table) (ot : okm_api_Table t) : law15_PredSides s u t = some true :=
  PredSides_core (szT_of (okm_Table ot)).cut (cut_small (okm_small ot))
end Go.Proofs.Ytjklfkiaebipnaa.M
