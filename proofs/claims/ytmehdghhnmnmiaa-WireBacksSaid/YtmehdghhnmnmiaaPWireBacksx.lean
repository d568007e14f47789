-- Written by a program of this session (see NOTES.md) out of the print of Lean's own loaded functions; Lean checks it.
import Derived.Test.YtmehdghhnmnmiaaPWireBacksx0
import Derived.Test.YtmehdghhnmnmiaaPWireBacksx1
import Derived.Test.YtmehdghhnmnmiaaPWireBacksx2
import Derived.Test.YtmehdghhnmnmiaaPWireBacksx3
namespace Go.Proofs.Ytmehdghhnmnmiaa.PWireBacks
open Go.RowKit Go.Proofs.YtmehdghhnmnmiaaW.PrintWords Go.Proofs.YtmehdghhnmnmiaaW.PrintLast Go.Proofs.YtmehdghhnmnmiaaW.PrintMore
attribute [local go_sem] max2_int min2_int max_two min_two max_three min_three max_four min_four   -- for this text's walks alone
set_option linter.unusedVariables false
set_option linter.unusedSimpArgs false

end Go.Proofs.Ytmehdghhnmnmiaa.PWireBacks
