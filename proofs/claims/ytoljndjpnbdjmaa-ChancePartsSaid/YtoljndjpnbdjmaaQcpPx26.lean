import Derived.Test.YtoljndjpnbdjmaaQcpPx0
import Derived.Test.YtoljndjpnbdjmaaQcpPx15
import Derived.Test.YtoljndjpnbdjmaaQcpPx16
import Derived.Test.YtoljndjpnbdjmaaQcpPx23
-- Printed by a program of this session's out of Lean's print of the translation; Lean checks it.
namespace Go.Proofs.Ytoljndjpnbdjmaa.P
open Go.RowKit Go.Proofs.YtoljndjpnbdjmaaW.PrintWords Go.Proofs.YtoljndjpnbdjmaaW.PrintLast Go.Proofs.YtoljndjpnbdjmaaW.PrintMore
attribute [local go_sem] max2_int min2_int max_two min_two max_three min_three max_four min_four   -- for this text's walks alone
set_option linter.unusedVariables false
set_option linter.unusedSimpArgs false

/-! ### annealref1_zero: function 70 -/
/-! ### annealref1_Compare: function 36 -/
end Go.Proofs.Ytoljndjpnbdjmaa.P
