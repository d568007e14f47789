/-
  No cell of these rows narrows 'for every input' (looked for: loops, veiled, ifaces, maps, wideKeys, modest, calm, conditions, laid).
  DERIVED. THE GIVEN ROWS OF THIS SEAT. 6 by the template 'for every input the law returns true; each argument reads behind the call as it read before'; 0 by the template 'total and deterministic' (their statements: YtcdfpombcogpfaaTotals.lean).
  GIVEN WITH THE SEED: the statements are not yours to turn. If you find one false, say at which input.
  Laid BY PROGRAM, IN A SANDBOX (cutbox-rows.mjs): the forced cells as the released guide's own fill.sh prints them over the translation 930d2172316f2605… (all of the seat's roots in one cut). By AI agents, Wed Nov 11 2026. No macro, syntax, notation, axiom, sorry.
-/
import Derived.Test.YtcdfpombcogpfaaChecked
import GoSem.Claim
import GoSem.ClaimJoined
import GoSem.ClaimMapViews
import Derived.JoinedTies
import Derived.KernelRfl
namespace Go.Proofs.Ytcdfpombcogpfaa
/- THE CELL 'sum', in the pinned program and in every row, IS THE sha256 OF THE DUMP (.gsa) THAT YtcdfpombcogpfaaProg.lean LOADS. Nothing in Lean hashes anything: it is a label: what it is worth is what the hold of that sum in a sandbox is worth. -/
noncomputable def Try.pinned : Pinned := { name := "ytcdfpombcogpfaa", sum := "930d2172316f260521f7a4d671ade6bd5e1c34f4696e787797fcfb4f268014e5", checked := Try.checked }
namespace Rows
def none {H : Type} : Left H := { results := [], args := [] }

/-- 'tattlelaw12.FnvSums': WHATEVER THE INPUT: true; the input reads as it did. -/
def fnvSumsSpec : ChangeSpec := { name := "fnvSums", fn := fun _ => fun
  | [d1, d2, d3] => { results := [.lit (.bool true)], args := [d1, d2, d3] }
  | _ => none }
def fnvSumsRow : OpenClaim := { program := "ytcdfpombcogpfaa", sum := "930d2172316f260521f7a4d671ade6bd5e1c34f4696e787797fcfb4f268014e5", func := "tattle/tattlelaw12.FnvSums", spec := "fnvSums", apart := false }
def FnvSumsSaid : Prop := fnvSumsRow.holds Try.pinned (OpenSpec.ofChange fnvSumsSpec)

/-- ITS FALSE NEIGHBOUR: 'it returns false'. Refute it at one input. -/
def fnvSumsWrong : ChangeSpec := { name := "fnvSums", fn := fun _ => fun
  | [d1, d2, d3] => { results := [.lit (.bool false)], args := [d1, d2, d3] }
  | _ => none }
def FnvSumsWrongFalsely : Prop := fnvSumsRow.holds Try.pinned (OpenSpec.ofChange fnvSumsWrong)

/-- 'tattlelaw12.FnvBacks': WHATEVER THE INPUT: true; the input reads as it did. -/
def fnvBacksSpec : ChangeSpec := { name := "fnvBacks", fn := fun _ => fun
  | [d1, d2, d3] => { results := [.lit (.bool true)], args := [d1, d2, d3] }
  | _ => none }
def fnvBacksRow : OpenClaim := { program := "ytcdfpombcogpfaa", sum := "930d2172316f260521f7a4d671ade6bd5e1c34f4696e787797fcfb4f268014e5", func := "tattle/tattlelaw12.FnvBacks", spec := "fnvBacks", apart := false }
def FnvBacksSaid : Prop := fnvBacksRow.holds Try.pinned (OpenSpec.ofChange fnvBacksSpec)

/-- ITS FALSE NEIGHBOUR: 'it returns false'. Refute it at one input. -/
def fnvBacksWrong : ChangeSpec := { name := "fnvBacks", fn := fun _ => fun
  | [d1, d2, d3] => { results := [.lit (.bool false)], args := [d1, d2, d3] }
  | _ => none }
def FnvBacksWrongFalsely : Prop := fnvBacksRow.holds Try.pinned (OpenSpec.ofChange fnvBacksWrong)

/-- 'tattlelaw12.FnvDiffers': WHATEVER THE INPUT: true; the input reads as it did. -/
def fnvDiffersSpec : ChangeSpec := { name := "fnvDiffers", fn := fun _ => fun
  | [d] => { results := [.lit (.bool true)], args := [d] }
  | _ => none }
def fnvDiffersRow : OpenClaim := { program := "ytcdfpombcogpfaa", sum := "930d2172316f260521f7a4d671ade6bd5e1c34f4696e787797fcfb4f268014e5", func := "tattle/tattlelaw12.FnvDiffers", spec := "fnvDiffers", apart := false }
def FnvDiffersSaid : Prop := fnvDiffersRow.holds Try.pinned (OpenSpec.ofChange fnvDiffersSpec)

/-- ITS FALSE NEIGHBOUR: 'it returns false'. Refute it at one input. -/
def fnvDiffersWrong : ChangeSpec := { name := "fnvDiffers", fn := fun _ => fun
  | [d] => { results := [.lit (.bool false)], args := [d] }
  | _ => none }
def FnvDiffersWrongFalsely : Prop := fnvDiffersRow.holds Try.pinned (OpenSpec.ofChange fnvDiffersWrong)

/-- 'tattlelaw12.FnvParts': WHATEVER THE INPUT: true; the input reads as it did. -/
def fnvPartsSpec : ChangeSpec := { name := "fnvParts", fn := fun _ => fun
  | [d1, d2] => { results := [.lit (.bool true)], args := [d1, d2] }
  | _ => none }
def fnvPartsRow : OpenClaim := { program := "ytcdfpombcogpfaa", sum := "930d2172316f260521f7a4d671ade6bd5e1c34f4696e787797fcfb4f268014e5", func := "tattle/tattlelaw12.FnvParts", spec := "fnvParts", apart := false }
def FnvPartsSaid : Prop := fnvPartsRow.holds Try.pinned (OpenSpec.ofChange fnvPartsSpec)

/-- ITS FALSE NEIGHBOUR: 'it returns false'. Refute it at one input. -/
def fnvPartsWrong : ChangeSpec := { name := "fnvParts", fn := fun _ => fun
  | [d1, d2] => { results := [.lit (.bool false)], args := [d1, d2] }
  | _ => none }
def FnvPartsWrongFalsely : Prop := fnvPartsRow.holds Try.pinned (OpenSpec.ofChange fnvPartsWrong)

/-- 'tattlelaw12.FnvTurns': WHATEVER THE INPUT: true; the input reads as it did. -/
def fnvTurnsSpec : ChangeSpec := { name := "fnvTurns", fn := fun _ => fun
  | [d] => { results := [.lit (.bool true)], args := [d] }
  | _ => none }
def fnvTurnsRow : OpenClaim := { program := "ytcdfpombcogpfaa", sum := "930d2172316f260521f7a4d671ade6bd5e1c34f4696e787797fcfb4f268014e5", func := "tattle/tattlelaw12.FnvTurns", spec := "fnvTurns", apart := false }
def FnvTurnsSaid : Prop := fnvTurnsRow.holds Try.pinned (OpenSpec.ofChange fnvTurnsSpec)

/-- ITS FALSE NEIGHBOUR: 'it returns false'. Refute it at one input. -/
def fnvTurnsWrong : ChangeSpec := { name := "fnvTurns", fn := fun _ => fun
  | [d] => { results := [.lit (.bool false)], args := [d] }
  | _ => none }
def FnvTurnsWrongFalsely : Prop := fnvTurnsRow.holds Try.pinned (OpenSpec.ofChange fnvTurnsWrong)

/-- 'tattlelaw12.FnvPrime': WHATEVER THE INPUT: true; the input reads as it did. -/
def fnvPrimeSpec : ChangeSpec := { name := "fnvPrime", fn := fun _ => fun
  | [d1, d2, d3] => { results := [.lit (.bool true)], args := [d1, d2, d3] }
  | _ => none }
def fnvPrimeRow : OpenClaim := { program := "ytcdfpombcogpfaa", sum := "930d2172316f260521f7a4d671ade6bd5e1c34f4696e787797fcfb4f268014e5", func := "tattle/tattlelaw12.FnvPrime", spec := "fnvPrime", apart := false }
def FnvPrimeSaid : Prop := fnvPrimeRow.holds Try.pinned (OpenSpec.ofChange fnvPrimeSpec)

/-- ITS FALSE NEIGHBOUR: 'it returns false'. Refute it at one input. -/
def fnvPrimeWrong : ChangeSpec := { name := "fnvPrime", fn := fun _ => fun
  | [d1, d2, d3] => { results := [.lit (.bool false)], args := [d1, d2, d3] }
  | _ => none }
def FnvPrimeWrongFalsely : Prop := fnvPrimeRow.holds Try.pinned (OpenSpec.ofChange fnvPrimeWrong)

/- THE SECOND FORM. 'bulk': how many values and letters a reading holds, each counted each time it is reached (what is shared counts as often as it is met; a slice's spare places count too). A statement '..UptoSaid' is the law's where the arguments, and the package variables that the reading takes, are together of bulk at most 1048576: NARROWER than '..Said'. Prove '..Said' where nothing that the law and all that it calls make is longer than what came in: it says more and counts as full. Else prove '..UptoSaid'. A law counts once. -/
mutual
def uptoBulk {H : Type} : DataW H → Nat
  | .lit (.string bytes) => bytes.length + 1
  | .lit _ => 1
  | .nil => 1
  | .ptr d => uptoBulk d + 1
  | .slice elems spare => uptoBulkAll elems + uptoBulkAll spare + 1
  | .agg parts => uptoBulkAll parts + 1
  | .iface _ d => uptoBulk d + 1
  | .map entries => uptoBulkEntries entries + 1
  | .held _ => 1
def uptoBulkAll {H : Type} : List (DataW H) → Nat
  | [] => 0
  | d :: r => uptoBulk d + uptoBulkAll r
def uptoBulkEntries {H : Type} : List (Lit × DataW H) → Nat
  | [] => 0
  | x :: r => uptoBulkEntry x + uptoBulkEntries r
def uptoBulkEntry {H : Type} : Lit × DataW H → Nat
  | (.string bytes, d) => bytes.length + uptoBulk d + 1
  | (_, d) => uptoBulk d + 1
 end
def uptoSmall : (H : Type) → List (DataW H) → Bool := fun _ ds => decide (uptoBulkAll ds ≤ 1048576)
def OpenSpec.upto (s : _root_.Go.ChangeSpec) : _root_.Go.OpenSpec := { _root_.Go.OpenSpec.ofChange s with cond := some uptoSmall }

/-- 'tattlelaw12.FnvSums', WHERE WHAT IT READS IS OF BULK AT MOST 1048576: true; the input reads as it did. -/
def fnvSumsUptoRow : OpenClaim := { program := "ytcdfpombcogpfaa", sum := "930d2172316f260521f7a4d671ade6bd5e1c34f4696e787797fcfb4f268014e5", func := "tattle/tattlelaw12.FnvSums", spec := "fnvSums", apart := false, narrowed := true }
def FnvSumsUptoSaid : Prop := fnvSumsUptoRow.holds Try.pinned (OpenSpec.upto fnvSumsSpec)

/-- 'tattlelaw12.FnvBacks', WHERE WHAT IT READS IS OF BULK AT MOST 1048576: true; the input reads as it did. -/
def fnvBacksUptoRow : OpenClaim := { program := "ytcdfpombcogpfaa", sum := "930d2172316f260521f7a4d671ade6bd5e1c34f4696e787797fcfb4f268014e5", func := "tattle/tattlelaw12.FnvBacks", spec := "fnvBacks", apart := false, narrowed := true }
def FnvBacksUptoSaid : Prop := fnvBacksUptoRow.holds Try.pinned (OpenSpec.upto fnvBacksSpec)

/-- 'tattlelaw12.FnvDiffers', WHERE WHAT IT READS IS OF BULK AT MOST 1048576: true; the input reads as it did. -/
def fnvDiffersUptoRow : OpenClaim := { program := "ytcdfpombcogpfaa", sum := "930d2172316f260521f7a4d671ade6bd5e1c34f4696e787797fcfb4f268014e5", func := "tattle/tattlelaw12.FnvDiffers", spec := "fnvDiffers", apart := false, narrowed := true }
def FnvDiffersUptoSaid : Prop := fnvDiffersUptoRow.holds Try.pinned (OpenSpec.upto fnvDiffersSpec)

/-- 'tattlelaw12.FnvParts', WHERE WHAT IT READS IS OF BULK AT MOST 1048576: true; the input reads as it did. -/
def fnvPartsUptoRow : OpenClaim := { program := "ytcdfpombcogpfaa", sum := "930d2172316f260521f7a4d671ade6bd5e1c34f4696e787797fcfb4f268014e5", func := "tattle/tattlelaw12.FnvParts", spec := "fnvParts", apart := false, narrowed := true }
def FnvPartsUptoSaid : Prop := fnvPartsUptoRow.holds Try.pinned (OpenSpec.upto fnvPartsSpec)

/-- 'tattlelaw12.FnvTurns', WHERE WHAT IT READS IS OF BULK AT MOST 1048576: true; the input reads as it did. -/
def fnvTurnsUptoRow : OpenClaim := { program := "ytcdfpombcogpfaa", sum := "930d2172316f260521f7a4d671ade6bd5e1c34f4696e787797fcfb4f268014e5", func := "tattle/tattlelaw12.FnvTurns", spec := "fnvTurns", apart := false, narrowed := true }
def FnvTurnsUptoSaid : Prop := fnvTurnsUptoRow.holds Try.pinned (OpenSpec.upto fnvTurnsSpec)

/-- 'tattlelaw12.FnvPrime', WHERE WHAT IT READS IS OF BULK AT MOST 1048576: true; the input reads as it did. -/
def fnvPrimeUptoRow : OpenClaim := { program := "ytcdfpombcogpfaa", sum := "930d2172316f260521f7a4d671ade6bd5e1c34f4696e787797fcfb4f268014e5", func := "tattle/tattlelaw12.FnvPrime", spec := "fnvPrime", apart := false, narrowed := true }
def FnvPrimeUptoSaid : Prop := fnvPrimeUptoRow.holds Try.pinned (OpenSpec.upto fnvPrimeSpec)

end Rows
end Go.Proofs.Ytcdfpombcogpfaa
