/- heijunkaref01.Rows: are two rows of bytes alike? No condition but the reach of a slice. -/
import Derived.Test.YtdlcngmcjidomaaDoorBase
namespace Go.Proofs.YtdlcngmcjidomaaDoor
set_option linter.unusedSimpArgs false
set_option linter.unusedVariables false
open Go.RowKit

theorem ret_bool {a b : Bool} (h : a = b) : Ending.returned (.bool a) = .returned (.bool b) := by rw [h]
end Go.Proofs.YtdlcngmcjidomaaDoor
