/-
  No cell of these rows narrows 'for every input' (looked for: loops, veiled, ifaces, maps, wideKeys, modest, calm, conditions, laid).
  DERIVED. THE GIVEN ROWS OF THIS SEAT. 6 by the template 'for every input the law returns true; each argument reads behind the call as it read before'; 0 by the template 'total and deterministic' (their statements: YthbebfjoennmfaaTotals.lean).
  GIVEN WITH THE SEED: the statements are not yours to turn. If you find one false, say at which input.
  Laid BY PROGRAM, IN A SANDBOX (cutbox-rows.mjs): the forced cells as the released guide's own fill.sh prints them over the translation 6622985538577b9b… (all of the seat's roots in one cut). By AI agents, Wed Nov 11 2026. No macro, syntax, notation, axiom, sorry.
-/
import Derived.Test.YthbebfjoennmfaaChecked
import GoSem.Claim
import GoSem.ClaimJoined
import GoSem.ClaimMapViews
import Derived.JoinedTies
import Derived.KernelRfl
namespace Go.Proofs.Ythbebfjoennmfaa
/- THE CELL 'sum', in the pinned program and in every row, IS THE sha256 OF THE DUMP (.gsa) THAT YthbebfjoennmfaaProg.lean LOADS. Nothing in Lean hashes anything: it is a label: what it is worth is what the hold of that sum in a sandbox is worth. -/
noncomputable def Try.pinned : Pinned := { name := "ythbebfjoennmfaa", sum := "6622985538577b9bc6cbfe72e27d32d55c60c16de2ba2726def7e9ec211b44a3", checked := Try.checked }
namespace Rows
def none {H : Type} : Left H := { results := [], args := [] }

/-- 'tattlelaw15.PlanFewest': WHATEVER THE INPUT: true; the input reads as it did. -/
def planFewestSpec : ChangeSpec := { name := "planFewest", fn := fun _ => fun
  | [d1, d2, d3] => { results := [.lit (.bool true)], args := [d1, d2, d3] }
  | _ => none }
def planFewestRow : OpenClaim := { program := "ythbebfjoennmfaa", sum := "6622985538577b9bc6cbfe72e27d32d55c60c16de2ba2726def7e9ec211b44a3", func := "tattle/tattlelaw15.PlanFewest", spec := "planFewest", unfollowed := true, recurses := true, apart := false }
def PlanFewestSaid : Prop := planFewestRow.holds Try.pinned (OpenSpec.ofChange planFewestSpec)

/-- ITS FALSE NEIGHBOUR: 'it returns false'. Refute it at one input. -/
def planFewestWrong : ChangeSpec := { name := "planFewest", fn := fun _ => fun
  | [d1, d2, d3] => { results := [.lit (.bool false)], args := [d1, d2, d3] }
  | _ => none }
def PlanFewestWrongFalsely : Prop := planFewestRow.holds Try.pinned (OpenSpec.ofChange planFewestWrong)

/-- 'tattlelaw15.PlanStale': WHATEVER THE INPUT: true; the input reads as it did. -/
def planStaleSpec : ChangeSpec := { name := "planStale", fn := fun _ => fun
  | [d1, d2] => { results := [.lit (.bool true)], args := [d1, d2] }
  | _ => none }
def planStaleRow : OpenClaim := { program := "ythbebfjoennmfaa", sum := "6622985538577b9bc6cbfe72e27d32d55c60c16de2ba2726def7e9ec211b44a3", func := "tattle/tattlelaw15.PlanStale", spec := "planStale", unfollowed := true, recurses := true, apart := false }
def PlanStaleSaid : Prop := planStaleRow.holds Try.pinned (OpenSpec.ofChange planStaleSpec)

/-- ITS FALSE NEIGHBOUR: 'it returns false'. Refute it at one input. -/
def planStaleWrong : ChangeSpec := { name := "planStale", fn := fun _ => fun
  | [d1, d2] => { results := [.lit (.bool false)], args := [d1, d2] }
  | _ => none }
def PlanStaleWrongFalsely : Prop := planStaleRow.holds Try.pinned (OpenSpec.ofChange planStaleWrong)

/-- 'tattlelaw15.PlanThrough': WHATEVER THE INPUT: true; the input reads as it did. -/
def planThroughSpec : ChangeSpec := { name := "planThrough", fn := fun _ => fun
  | [d1, d2, d3] => { results := [.lit (.bool true)], args := [d1, d2, d3] }
  | _ => none }
def planThroughRow : OpenClaim := { program := "ythbebfjoennmfaa", sum := "6622985538577b9bc6cbfe72e27d32d55c60c16de2ba2726def7e9ec211b44a3", func := "tattle/tattlelaw15.PlanThrough", spec := "planThrough", unfollowed := true, recurses := true, apart := false }
def PlanThroughSaid : Prop := planThroughRow.holds Try.pinned (OpenSpec.ofChange planThroughSpec)

/-- ITS FALSE NEIGHBOUR: 'it returns false'. Refute it at one input. -/
def planThroughWrong : ChangeSpec := { name := "planThrough", fn := fun _ => fun
  | [d1, d2, d3] => { results := [.lit (.bool false)], args := [d1, d2, d3] }
  | _ => none }
def PlanThroughWrongFalsely : Prop := planThroughRow.holds Try.pinned (OpenSpec.ofChange planThroughWrong)

/-- 'tattlelaw15.PlanTells': WHATEVER THE INPUT: true; the input reads as it did. -/
def planTellsSpec : ChangeSpec := { name := "planTells", fn := fun _ => fun
  | [d1, d2, d3] => { results := [.lit (.bool true)], args := [d1, d2, d3] }
  | _ => none }
def planTellsRow : OpenClaim := { program := "ythbebfjoennmfaa", sum := "6622985538577b9bc6cbfe72e27d32d55c60c16de2ba2726def7e9ec211b44a3", func := "tattle/tattlelaw15.PlanTells", spec := "planTells", unfollowed := true, recurses := true, apart := false }
def PlanTellsSaid : Prop := planTellsRow.holds Try.pinned (OpenSpec.ofChange planTellsSpec)

/-- ITS FALSE NEIGHBOUR: 'it returns false'. Refute it at one input. -/
def planTellsWrong : ChangeSpec := { name := "planTells", fn := fun _ => fun
  | [d1, d2, d3] => { results := [.lit (.bool false)], args := [d1, d2, d3] }
  | _ => none }
def PlanTellsWrongFalsely : Prop := planTellsRow.holds Try.pinned (OpenSpec.ofChange planTellsWrong)

/-- 'tattlelaw15.PlanMakes': WHATEVER THE INPUT: true; the input reads as it did. -/
def planMakesSpec : ChangeSpec := { name := "planMakes", fn := fun _ => fun
  | [d1, d2] => { results := [.lit (.bool true)], args := [d1, d2] }
  | _ => none }
def planMakesRow : OpenClaim := { program := "ythbebfjoennmfaa", sum := "6622985538577b9bc6cbfe72e27d32d55c60c16de2ba2726def7e9ec211b44a3", func := "tattle/tattlelaw15.PlanMakes", spec := "planMakes", unfollowed := true, recurses := true, apart := false }
def PlanMakesSaid : Prop := planMakesRow.holds Try.pinned (OpenSpec.ofChange planMakesSpec)

/-- ITS FALSE NEIGHBOUR: 'it returns false'. Refute it at one input. -/
def planMakesWrong : ChangeSpec := { name := "planMakes", fn := fun _ => fun
  | [d1, d2] => { results := [.lit (.bool false)], args := [d1, d2] }
  | _ => none }
def PlanMakesWrongFalsely : Prop := planMakesRow.holds Try.pinned (OpenSpec.ofChange planMakesWrong)

/-- 'tattlelaw15.PlanBacks': WHATEVER THE INPUT: true; the input reads as it did. -/
def planBacksSpec : ChangeSpec := { name := "planBacks", fn := fun _ => fun
  | [d1, d2] => { results := [.lit (.bool true)], args := [d1, d2] }
  | _ => none }
def planBacksRow : OpenClaim := { program := "ythbebfjoennmfaa", sum := "6622985538577b9bc6cbfe72e27d32d55c60c16de2ba2726def7e9ec211b44a3", func := "tattle/tattlelaw15.PlanBacks", spec := "planBacks", unfollowed := true, recurses := true, apart := false }
def PlanBacksSaid : Prop := planBacksRow.holds Try.pinned (OpenSpec.ofChange planBacksSpec)

/-- ITS FALSE NEIGHBOUR: 'it returns false'. Refute it at one input. -/
def planBacksWrong : ChangeSpec := { name := "planBacks", fn := fun _ => fun
  | [d1, d2] => { results := [.lit (.bool false)], args := [d1, d2] }
  | _ => none }
def PlanBacksWrongFalsely : Prop := planBacksRow.holds Try.pinned (OpenSpec.ofChange planBacksWrong)

/- THE SECOND FORM. 'bulk': how many values and letters a reading holds, each counted each time it is reached (what is shared counts as often as it is met; a slice's spare places count too). A statement '..UptoSaid' is the law's where the arguments, and the package variables that the reading takes, are together of bulk at most 1048576: NARROWER than '..Said'. Prove '..Said' where nothing that the law and all that it calls make is longer than what came in: it says more and counts as full. Else prove '..UptoSaid'. A law counts once. -/
mutual
def uptoBulk {H : Type} : DataW H → Nat
  | .lit (.string bytes) => bytes.length + 1
  | .lit _ => 1
  | .nil => 1
  | .ptr d => uptoBulk d + 1
  | .slice elems spare => uptoBulkAll elems + uptoBulkAll spare + 1
  | .agg parts => uptoBulkAll parts + 1
  | .iface _ d => uptoBulk d + 1
  | .map entries => uptoBulkEntries entries + 1
  | .held _ => 1
def uptoBulkAll {H : Type} : List (DataW H) → Nat
  | [] => 0
  | d :: r => uptoBulk d + uptoBulkAll r
def uptoBulkEntries {H : Type} : List (Lit × DataW H) → Nat
  | [] => 0
  | x :: r => uptoBulkEntry x + uptoBulkEntries r
def uptoBulkEntry {H : Type} : Lit × DataW H → Nat
  | (.string bytes, d) => bytes.length + uptoBulk d + 1
  | (_, d) => uptoBulk d + 1
 end
def uptoSmall : (H : Type) → List (DataW H) → Bool := fun _ ds => decide (uptoBulkAll ds ≤ 1048576)
def OpenSpec.upto (s : _root_.Go.ChangeSpec) : _root_.Go.OpenSpec := { _root_.Go.OpenSpec.ofChange s with cond := some uptoSmall }

/-- 'tattlelaw15.PlanFewest', WHERE WHAT IT READS IS OF BULK AT MOST 1048576: true; the input reads as it did. -/
def planFewestUptoRow : OpenClaim := { program := "ythbebfjoennmfaa", sum := "6622985538577b9bc6cbfe72e27d32d55c60c16de2ba2726def7e9ec211b44a3", func := "tattle/tattlelaw15.PlanFewest", spec := "planFewest", unfollowed := true, recurses := true, apart := false, narrowed := true }
def PlanFewestUptoSaid : Prop := planFewestUptoRow.holds Try.pinned (OpenSpec.upto planFewestSpec)

/-- 'tattlelaw15.PlanStale', WHERE WHAT IT READS IS OF BULK AT MOST 1048576: true; the input reads as it did. -/
def planStaleUptoRow : OpenClaim := { program := "ythbebfjoennmfaa", sum := "6622985538577b9bc6cbfe72e27d32d55c60c16de2ba2726def7e9ec211b44a3", func := "tattle/tattlelaw15.PlanStale", spec := "planStale", unfollowed := true, recurses := true, apart := false, narrowed := true }
def PlanStaleUptoSaid : Prop := planStaleUptoRow.holds Try.pinned (OpenSpec.upto planStaleSpec)

/-- 'tattlelaw15.PlanThrough', WHERE WHAT IT READS IS OF BULK AT MOST 1048576: true; the input reads as it did. -/
def planThroughUptoRow : OpenClaim := { program := "ythbebfjoennmfaa", sum := "6622985538577b9bc6cbfe72e27d32d55c60c16de2ba2726def7e9ec211b44a3", func := "tattle/tattlelaw15.PlanThrough", spec := "planThrough", unfollowed := true, recurses := true, apart := false, narrowed := true }
def PlanThroughUptoSaid : Prop := planThroughUptoRow.holds Try.pinned (OpenSpec.upto planThroughSpec)

/-- 'tattlelaw15.PlanTells', WHERE WHAT IT READS IS OF BULK AT MOST 1048576: true; the input reads as it did. -/
def planTellsUptoRow : OpenClaim := { program := "ythbebfjoennmfaa", sum := "6622985538577b9bc6cbfe72e27d32d55c60c16de2ba2726def7e9ec211b44a3", func := "tattle/tattlelaw15.PlanTells", spec := "planTells", unfollowed := true, recurses := true, apart := false, narrowed := true }
def PlanTellsUptoSaid : Prop := planTellsUptoRow.holds Try.pinned (OpenSpec.upto planTellsSpec)

/-- 'tattlelaw15.PlanMakes', WHERE WHAT IT READS IS OF BULK AT MOST 1048576: true; the input reads as it did. -/
def planMakesUptoRow : OpenClaim := { program := "ythbebfjoennmfaa", sum := "6622985538577b9bc6cbfe72e27d32d55c60c16de2ba2726def7e9ec211b44a3", func := "tattle/tattlelaw15.PlanMakes", spec := "planMakes", unfollowed := true, recurses := true, apart := false, narrowed := true }
def PlanMakesUptoSaid : Prop := planMakesUptoRow.holds Try.pinned (OpenSpec.upto planMakesSpec)

/-- 'tattlelaw15.PlanBacks', WHERE WHAT IT READS IS OF BULK AT MOST 1048576: true; the input reads as it did. -/
def planBacksUptoRow : OpenClaim := { program := "ythbebfjoennmfaa", sum := "6622985538577b9bc6cbfe72e27d32d55c60c16de2ba2726def7e9ec211b44a3", func := "tattle/tattlelaw15.PlanBacks", spec := "planBacks", unfollowed := true, recurses := true, apart := false, narrowed := true }
def PlanBacksUptoSaid : Prop := planBacksUptoRow.holds Try.pinned (OpenSpec.upto planBacksSpec)

end Rows
end Go.Proofs.Ythbebfjoennmfaa
