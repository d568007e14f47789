-- Written by a program of this session (see NOTES.md) out of the print of Lean's own loaded functions; Lean checks it.
import Derived.Test.YthbebfjoennmfaaPPlanMakesx0
import Derived.Test.YthbebfjoennmfaaPPlanMakesx1
import Derived.Test.YthbebfjoennmfaaPPlanMakesx2
import Derived.Test.YthbebfjoennmfaaPPlanMakesx3
import Derived.Test.YthbebfjoennmfaaPPlanMakesx4
import Derived.Test.YthbebfjoennmfaaPPlanMakesx5
import Derived.Test.YthbebfjoennmfaaPPlanMakesx6
import Derived.Test.YthbebfjoennmfaaPPlanMakesx7
namespace Go.Proofs.Ythbebfjoennmfaa.PPlanMakes
open Go.RowKit Go.Proofs.YthbebfjoennmfaaW.PrintWords Go.Proofs.YthbebfjoennmfaaW.PrintLast Go.Proofs.YthbebfjoennmfaaW.PrintMore
attribute [local go_sem] max2_int min2_int max_two min_two max_three min_three max_four min_four   -- for this text's walks alone
set_option linter.unusedVariables false
set_option linter.unusedSimpArgs false

end Go.Proofs.Ythbebfjoennmfaa.PPlanMakes
