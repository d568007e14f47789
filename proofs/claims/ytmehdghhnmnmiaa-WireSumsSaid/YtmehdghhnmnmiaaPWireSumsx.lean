-- Written by a program of this session (see NOTES.md) out of the print of Lean's own loaded functions; Lean checks it.
import Derived.Test.YtmehdghhnmnmiaaPWireSumsx0
import Derived.Test.YtmehdghhnmnmiaaPWireSumsx1
import Derived.Test.YtmehdghhnmnmiaaPWireSumsx2
namespace Go.Proofs.Ytmehdghhnmnmiaa.PWireSums
open Go.RowKit Go.Proofs.YtmehdghhnmnmiaaW.PrintWords Go.Proofs.YtmehdghhnmnmiaaW.PrintLast Go.Proofs.YtmehdghhnmnmiaaW.PrintMore
attribute [local go_sem] max2_int min2_int max_two min_two max_three min_three max_four min_four   -- for this text's walks alone
set_option linter.unusedVariables false
set_option linter.unusedSimpArgs false

end Go.Proofs.Ytmehdghhnmnmiaa.PWireSums
