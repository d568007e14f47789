-- Written by a program of this session (see NOTES.md) out of the print of Lean's own loaded functions; Lean checks it.
import Derived.Test.YtmehdghhnmnmiaaProg
import Derived.Below
import Derived.Deep.Draws
import Derived.Deep.AppendLies
import Derived.Maps.AppendAt
import Derived.OwnWalk
import Derived.Laws.BytesArg
import Derived.Laws.MakeOwn
import Derived.Laws.OwnMore
import Derived.Deep.OwnRows
import Derived.Tactics
import Derived.Lib.ConvBytes
import Derived.Laws.Slices
import Derived.WalkKit
import Derived.KernelRfl
import Derived.RowKit3
import Derived.Deep.LoopGhost
import Derived.Deep.QuietTactic
import Derived.BigQuiet
import Derived.WideLaws
import Derived.Deep.DeepCutAuto
import Derived.Deep.CutBlock
import Derived.Deep.RegionHeld3
import Derived.Laws.Rows
import Derived.Lib.AppendStr
import Derived.ArgAppend
import Derived.Laws.IdiomCopy
import Derived.OrdersHeld
import Derived.Laws.BitsLemmas
import Derived.RowKit
import Derived.Laws.CopyRow
import Derived.Lib.Hide
import Derived.OneCell
import Derived.RegionTactic
import Derived.ChangeAlike
import Derived.Test.YtmehdghhnmnmiaaWWords
import Derived.Test.YtmehdghhnmnmiaaWLast
import Derived.Test.YtmehdghhnmnmiaaWTab
import Derived.Test.YtmehdghhnmnmiaaWFour
import Derived.Test.YtmehdghhnmnmiaaWQPut
import Derived.Test.YtmehdghhnmnmiaaWApart
import Derived.Test.YtmehdghhnmnmiaaWArr
import Derived.Test.YtmehdghhnmnmiaaWZeros
import Derived.Test.YtmehdghhnmnmiaaWFoot
import Derived.Test.YtmehdghhnmnmiaaWKept
import Derived.Test.YtmehdghhnmnmiaaWShare
import Derived.Test.YtmehdghhnmnmiaaWN
import Derived.Test.YtmehdghhnmnmiaaWFootNe
import Derived.Test.YtmehdghhnmnmiaaWAt
import Derived.Test.YtmehdghhnmnmiaaWEqStruct
import Derived.Test.YtmehdghhnmnmiaaWRepsOne
import Derived.Test.YtmehdghhnmnmiaaWInv
import Derived.Test.YtmehdghhnmnmiaaWInvWords
import Derived.Test.YtmehdghhnmnmiaaWGuard
import Derived.Test.YtmehdghhnmnmiaaWNEv
import Derived.Test.YtmehdghhnmnmiaaWMore
namespace Go.Proofs.Ytmehdghhnmnmiaa.PWireSums
open Go.RowKit Go.Proofs.YtmehdghhnmnmiaaW.PrintWords Go.Proofs.YtmehdghhnmnmiaaW.PrintLast Go.Proofs.YtmehdghhnmnmiaaW.PrintMore
attribute [local go_sem] max2_int min2_int max_two min_two max_three min_three max_four min_four   -- for this text's walks alone
set_option linter.unusedVariables false
set_option linter.unusedSimpArgs false



def errW : Option Int → Value
  | none => .nilIface
  | some c => .iface 0 (.int .i64 c)
theorem errW_none : errW none = .nilIface := rfl
theorem errW_some (c : Int) : errW (some c) = .iface 0 (.int .i64 c) := rfl

theorem info5 : (Try.prog.info? 5).map (fun i => (i.zero, i.size, i.bytes)) = some (some (.int .u8 0), 1, 1) := by kernel_rfl
theorem info24 : (Try.prog.info? 24).map (fun i => (i.zero, i.size, i.bytes)) = some (some (.int .u64 0), 1, 8) := by kernel_rfl
-- the values' own types

end Go.Proofs.Ytmehdghhnmnmiaa.PWireSums
