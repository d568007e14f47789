-- Written by a program of this session (see NOTES.md) out of the print of Lean's own loaded functions; Lean checks it.
import Derived.Test.YtldeanlnfhgjfaaPDiskReadsx0
import Derived.Test.YtldeanlnfhgjfaaPDiskReadsx1
import Derived.Test.YtldeanlnfhgjfaaPDiskReadsx2
import Derived.Test.YtldeanlnfhgjfaaPDiskReadsx3
import Derived.Test.YtldeanlnfhgjfaaPDiskReadsx4
import Derived.Test.YtldeanlnfhgjfaaPDiskReadsx5
import Derived.Test.YtldeanlnfhgjfaaPDiskReadsx6
import Derived.Test.YtldeanlnfhgjfaaPDiskReadsx7
import Derived.Test.YtldeanlnfhgjfaaPDiskReadsx8
import Derived.Test.YtldeanlnfhgjfaaPDiskReadsx9
namespace Go.Proofs.Ytldeanlnfhgjfaa.PDiskReads
open Go.RowKit Go.Proofs.YtldeanlnfhgjfaaW.PrintWords Go.Proofs.YtldeanlnfhgjfaaW.PrintLast Go.Proofs.YtldeanlnfhgjfaaW.PrintMore
attribute [local go_sem] max2_int min2_int max_two min_two max_three min_three max_four min_four   -- for this text's walks alone
set_option linter.unusedVariables false
set_option linter.unusedSimpArgs false

end Go.Proofs.Ytldeanlnfhgjfaa.PDiskReads
