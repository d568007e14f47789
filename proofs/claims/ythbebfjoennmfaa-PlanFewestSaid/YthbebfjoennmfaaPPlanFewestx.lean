-- Written by a program of this session (see NOTES.md) out of the print of Lean's own loaded functions; Lean checks it.
import Derived.Test.YthbebfjoennmfaaPPlanFewestx0
import Derived.Test.YthbebfjoennmfaaPPlanFewestx1
import Derived.Test.YthbebfjoennmfaaPPlanFewestx2
import Derived.Test.YthbebfjoennmfaaPPlanFewestx3
import Derived.Test.YthbebfjoennmfaaPPlanFewestx4
import Derived.Test.YthbebfjoennmfaaPPlanFewestx5
import Derived.Test.YthbebfjoennmfaaPPlanFewestx6
import Derived.Test.YthbebfjoennmfaaPPlanFewestx7
namespace Go.Proofs.Ythbebfjoennmfaa.PPlanFewest
open Go.RowKit Go.Proofs.YthbebfjoennmfaaW.PrintWords Go.Proofs.YthbebfjoennmfaaW.PrintLast Go.Proofs.YthbebfjoennmfaaW.PrintMore
attribute [local go_sem] max2_int min2_int max_two min_two max_three min_three max_four min_four   -- for this text's walks alone
set_option linter.unusedVariables false
set_option linter.unusedSimpArgs false

end Go.Proofs.Ythbebfjoennmfaa.PPlanFewest
