/- Part of the proof: what the theorem needs of this text. -/
import Derived.Test.YtpkklbdclghcfaaDoorKPx0
namespace Go.Proofs.YtpkklbdclghcfaaDoor.P
open Go.RowKit Go.Proofs.YtpkklbdclghcfaaDoorW.PrintWords Go.Proofs.YtpkklbdclghcfaaDoorW.PrintLast Go.Proofs.YtpkklbdclghcfaaDoorW.PrintMore
attribute [local go_sem] max2_int min2_int max_two min_two max_three min_three max_four min_four   -- for this text's walks alone
set_option linter.unusedVariables false
set_option linter.unusedSimpArgs false
end Go.Proofs.YtpkklbdclghcfaaDoor.P
