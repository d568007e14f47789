-- Written by a program of this session (see NOTES.md) out of the print of Lean's own loaded functions; Lean checks it.
import Derived.Test.YtldeanlnfhgjfaaPDiskTurnsAboutx0
import Derived.Test.YtldeanlnfhgjfaaPDiskTurnsAboutx1
import Derived.Test.YtldeanlnfhgjfaaPDiskTurnsAboutx2
import Derived.Test.YtldeanlnfhgjfaaPDiskTurnsAboutx3
import Derived.Test.YtldeanlnfhgjfaaPDiskTurnsAboutx4
import Derived.Test.YtldeanlnfhgjfaaPDiskTurnsAboutx5
import Derived.Test.YtldeanlnfhgjfaaPDiskTurnsAboutx6
import Derived.Test.YtldeanlnfhgjfaaPDiskTurnsAboutx7
import Derived.Test.YtldeanlnfhgjfaaPDiskTurnsAboutx8
namespace Go.Proofs.Ytldeanlnfhgjfaa.PDiskTurnsAbout
open Go.RowKit Go.Proofs.YtldeanlnfhgjfaaW.PrintWords Go.Proofs.YtldeanlnfhgjfaaW.PrintLast Go.Proofs.YtldeanlnfhgjfaaW.PrintMore
attribute [local go_sem] max2_int min2_int max_two min_two max_three min_three max_four min_four   -- for this text's walks alone
set_option linter.unusedVariables false
set_option linter.unusedSimpArgs false

end Go.Proofs.Ytldeanlnfhgjfaa.PDiskTurnsAbout
