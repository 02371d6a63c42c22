import Derived.Test.YtoljndjpnbdjmaaQcpPx0
import Derived.Test.YtoljndjpnbdjmaaQcpPx1
import Derived.Test.YtoljndjpnbdjmaaQcpPx7
-- Printed by a program of this session's out of Lean's print of the translation; Lean checks it.
namespace Go.Proofs.Ytoljndjpnbdjmaa.P
open Go.RowKit Go.Proofs.YtoljndjpnbdjmaaW.PrintWords Go.Proofs.YtoljndjpnbdjmaaW.PrintLast Go.Proofs.YtoljndjpnbdjmaaW.PrintMore
attribute [local go_sem] max2_int min2_int max_two min_two max_three min_three max_four min_four   -- for this text's walks alone
set_option linter.unusedVariables false
set_option linter.unusedSimpArgs false

attribute [local go_sem high] eqA30
/-! ### anneallaw3_known: function 15 -/
/-! ### anneallaw3_form: function 16 -/
/-! ### annealref1_Widths: function 52 -/
/-! ### annealref1_sign: function 57 -/
/-! ### annealref1_Zero: function 23 -/
/-! ### annealref1_bias: function 53 -/
/-! ### annealref1_Len: function 54 -/
end Go.Proofs.Ytoljndjpnbdjmaa.P
