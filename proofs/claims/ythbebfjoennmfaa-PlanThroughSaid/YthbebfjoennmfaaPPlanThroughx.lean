-- Written by a program of this session (see NOTES.md) out of the print of Lean's own loaded functions; Lean checks it.
import Derived.Test.YthbebfjoennmfaaPPlanThroughx0
import Derived.Test.YthbebfjoennmfaaPPlanThroughx1
import Derived.Test.YthbebfjoennmfaaPPlanThroughx2
import Derived.Test.YthbebfjoennmfaaPPlanThroughx3
import Derived.Test.YthbebfjoennmfaaPPlanThroughx4
import Derived.Test.YthbebfjoennmfaaPPlanThroughx5
import Derived.Test.YthbebfjoennmfaaPPlanThroughx6
import Derived.Test.YthbebfjoennmfaaPPlanThroughx7
import Derived.Test.YthbebfjoennmfaaPPlanThroughx8
namespace Go.Proofs.Ythbebfjoennmfaa.PPlanThrough
open Go.RowKit Go.Proofs.YthbebfjoennmfaaW.PrintWords Go.Proofs.YthbebfjoennmfaaW.PrintLast Go.Proofs.YthbebfjoennmfaaW.PrintMore
attribute [local go_sem] max2_int min2_int max_two min_two max_three min_three max_four min_four   -- for this text's walks alone
set_option linter.unusedVariables false
set_option linter.unusedSimpArgs false

end Go.Proofs.Ythbebfjoennmfaa.PPlanThrough
