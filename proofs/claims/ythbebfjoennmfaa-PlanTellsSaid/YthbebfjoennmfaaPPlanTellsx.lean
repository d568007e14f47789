-- Written by a program of this session (see NOTES.md) out of the print of Lean's own loaded functions; Lean checks it.
import Derived.Test.YthbebfjoennmfaaPPlanTellsx0
import Derived.Test.YthbebfjoennmfaaPPlanTellsx1
import Derived.Test.YthbebfjoennmfaaPPlanTellsx2
import Derived.Test.YthbebfjoennmfaaPPlanTellsx3
import Derived.Test.YthbebfjoennmfaaPPlanTellsx4
import Derived.Test.YthbebfjoennmfaaPPlanTellsx5
import Derived.Test.YthbebfjoennmfaaPPlanTellsx6
import Derived.Test.YthbebfjoennmfaaPPlanTellsx7
import Derived.Test.YthbebfjoennmfaaPPlanTellsx8
import Derived.Test.YthbebfjoennmfaaPPlanTellsx9
import Derived.Test.YthbebfjoennmfaaPPlanTellsx10
import Derived.Test.YthbebfjoennmfaaPPlanTellsx11
import Derived.Test.YthbebfjoennmfaaPPlanTellsx12
namespace Go.Proofs.Ythbebfjoennmfaa.PPlanTells
open Go.RowKit Go.Proofs.YthbebfjoennmfaaW.PrintWords Go.Proofs.YthbebfjoennmfaaW.PrintLast Go.Proofs.YthbebfjoennmfaaW.PrintMore
attribute [local go_sem] max2_int min2_int max_two min_two max_three min_three max_four min_four   -- for this text's walks alone
set_option linter.unusedVariables false
set_option linter.unusedSimpArgs false

end Go.Proofs.Ythbebfjoennmfaa.PPlanTells
