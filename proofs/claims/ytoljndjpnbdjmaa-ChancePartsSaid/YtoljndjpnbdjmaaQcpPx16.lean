import Derived.Test.YtoljndjpnbdjmaaQcpPx0
import Derived.Test.YtoljndjpnbdjmaaQcpPx1
import Derived.Test.YtoljndjpnbdjmaaQcpPx7
import Derived.Test.YtoljndjpnbdjmaaQcpPx8
import Derived.Test.YtoljndjpnbdjmaaQcpPx15
-- Printed by a program of this session's out of Lean's print of the translation; Lean checks it.
namespace Go.Proofs.Ytoljndjpnbdjmaa.P
open Go.RowKit Go.Proofs.YtoljndjpnbdjmaaW.PrintWords Go.Proofs.YtoljndjpnbdjmaaW.PrintLast Go.Proofs.YtoljndjpnbdjmaaW.PrintMore
attribute [local go_sem] max2_int min2_int max_two min_two max_three min_three max_four min_four   -- for this text's walks alone
set_option linter.unusedVariables false
set_option linter.unusedSimpArgs false

attribute [local go_sem high] eqA30
/-! ### annealref1_Unpack: function 21 -/
/-! ### anneallaw3_RoundExact: function 5 -/
/-! ### annealref1_neg: function 60 -/
/-! ### annealref1_Key: function 22 -/
end Go.Proofs.Ytoljndjpnbdjmaa.P
