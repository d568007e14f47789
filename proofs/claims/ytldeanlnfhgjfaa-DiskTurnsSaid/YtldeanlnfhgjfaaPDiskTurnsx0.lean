-- Written by a program of this session (see NOTES.md) out of the print of Lean's own loaded functions; Lean checks it.
import Derived.Test.YtldeanlnfhgjfaaProg
import Derived.Below
import Derived.Deep.Draws
import Derived.Deep.AppendLies
import Derived.Maps.AppendAt
import Derived.OwnWalk
import Derived.Laws.BytesArg
import Derived.Laws.MakeOwn
import Derived.Laws.OwnMore
import Derived.Deep.OwnRows
import Derived.Tactics
import Derived.Lib.ConvBytes
import Derived.Laws.Slices
import Derived.WalkKit
import Derived.KernelRfl
import Derived.RowKit3
import Derived.Deep.LoopGhost
import Derived.Deep.QuietTactic
import Derived.BigQuiet
import Derived.WideLaws
import Derived.Deep.DeepCutAuto
import Derived.Deep.CutBlock
import Derived.Deep.RegionHeld3
import Derived.Laws.Rows
import Derived.Lib.AppendStr
import Derived.ArgAppend
import Derived.Laws.IdiomCopy
import Derived.OrdersHeld
import Derived.Laws.BitsLemmas
import Derived.RowKit
import Derived.Laws.CopyRow
import Derived.Lib.Hide
import Derived.OneCell
import Derived.RegionTactic
import Derived.ChangeAlike
import Derived.Test.YtldeanlnfhgjfaaWWords
import Derived.Test.YtldeanlnfhgjfaaWLast
import Derived.Test.YtldeanlnfhgjfaaWTab
import Derived.Test.YtldeanlnfhgjfaaWFour
import Derived.Test.YtldeanlnfhgjfaaWQPut
import Derived.Test.YtldeanlnfhgjfaaWApart
import Derived.Test.YtldeanlnfhgjfaaWArr
import Derived.Test.YtldeanlnfhgjfaaWZeros
import Derived.Test.YtldeanlnfhgjfaaWFoot
import Derived.Test.YtldeanlnfhgjfaaWKept
import Derived.Test.YtldeanlnfhgjfaaWShare
import Derived.Test.YtldeanlnfhgjfaaWN
import Derived.Test.YtldeanlnfhgjfaaWFootNe
import Derived.Test.YtldeanlnfhgjfaaWAt
import Derived.Test.YtldeanlnfhgjfaaWEqStruct
import Derived.Test.YtldeanlnfhgjfaaWRepsOne
import Derived.Test.YtldeanlnfhgjfaaWInv
import Derived.Test.YtldeanlnfhgjfaaWInvWords
import Derived.Test.YtldeanlnfhgjfaaWGuard
import Derived.Test.YtldeanlnfhgjfaaWNEv
import Derived.Test.YtldeanlnfhgjfaaWMore
namespace Go.Proofs.Ytldeanlnfhgjfaa.PDiskTurns
open Go.RowKit Go.Proofs.YtldeanlnfhgjfaaW.PrintWords Go.Proofs.YtldeanlnfhgjfaaW.PrintLast Go.Proofs.YtldeanlnfhgjfaaW.PrintMore
attribute [local go_sem] max2_int min2_int max_two min_two max_three min_three max_four min_four   -- for this text's walks alone
set_option linter.unusedVariables false
set_option linter.unusedSimpArgs false



def errW : Option Int → Value
  | none => .nilIface
  | some c => .iface 0 (.int .i64 c)
theorem errW_none : errW none = .nilIface := rfl
theorem errW_some (c : Int) : errW (some c) = .iface 0 (.int .i64 c) := rfl

theorem info5 : (Try.prog.info? 5).map (fun i => (i.zero, i.size, i.bytes)) = some (some (.int .u8 0), 1, 1) := by kernel_rfl
theorem info24 : (Try.prog.info? 24).map (fun i => (i.zero, i.size, i.bytes)) = some (some (.int .u64 0), 1, 8) := by kernel_rfl
-- the values' own types

end Go.Proofs.Ytldeanlnfhgjfaa.PDiskTurns
