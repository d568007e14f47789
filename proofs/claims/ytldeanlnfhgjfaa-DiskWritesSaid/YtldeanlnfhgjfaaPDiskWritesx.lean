-- Written by a program of this session (see NOTES.md) out of the print of Lean's own loaded functions; Lean checks it.
import Derived.Test.YtldeanlnfhgjfaaPDiskWritesx0
import Derived.Test.YtldeanlnfhgjfaaPDiskWritesx1
import Derived.Test.YtldeanlnfhgjfaaPDiskWritesx2
import Derived.Test.YtldeanlnfhgjfaaPDiskWritesx3
import Derived.Test.YtldeanlnfhgjfaaPDiskWritesx4
import Derived.Test.YtldeanlnfhgjfaaPDiskWritesx5
import Derived.Test.YtldeanlnfhgjfaaPDiskWritesx6
import Derived.Test.YtldeanlnfhgjfaaPDiskWritesx7
import Derived.Test.YtldeanlnfhgjfaaPDiskWritesx8
import Derived.Test.YtldeanlnfhgjfaaPDiskWritesx9
import Derived.Test.YtldeanlnfhgjfaaPDiskWritesx10
namespace Go.Proofs.Ytldeanlnfhgjfaa.PDiskWrites
open Go.RowKit Go.Proofs.YtldeanlnfhgjfaaW.PrintWords Go.Proofs.YtldeanlnfhgjfaaW.PrintLast Go.Proofs.YtldeanlnfhgjfaaW.PrintMore
attribute [local go_sem] max2_int min2_int max_two min_two max_three min_three max_four min_four   -- for this text's walks alone
set_option linter.unusedVariables false
set_option linter.unusedSimpArgs false

end Go.Proofs.Ytldeanlnfhgjfaa.PDiskWrites
