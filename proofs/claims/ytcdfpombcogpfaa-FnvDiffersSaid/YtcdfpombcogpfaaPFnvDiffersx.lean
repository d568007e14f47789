-- Written by a program of this session (see NOTES.md) out of the print of Lean's own loaded functions; Lean checks it.
import Derived.Test.YtcdfpombcogpfaaPFnvDiffersx0
import Derived.Test.YtcdfpombcogpfaaPFnvDiffersx1
namespace Go.Proofs.Ytcdfpombcogpfaa.PFnvDiffers
open Go.RowKit Go.Proofs.YtcdfpombcogpfaaW.PrintWords Go.Proofs.YtcdfpombcogpfaaW.PrintLast Go.Proofs.YtcdfpombcogpfaaW.PrintMore
attribute [local go_sem] max2_int min2_int max_two min_two max_three min_three max_four min_four   -- for this text's walks alone
set_option linter.unusedVariables false
set_option linter.unusedSimpArgs false

end Go.Proofs.Ytcdfpombcogpfaa.PFnvDiffers
