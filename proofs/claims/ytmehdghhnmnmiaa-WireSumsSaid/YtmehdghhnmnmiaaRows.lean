/-
  No cell of these rows narrows 'for every input' (looked for: loops, veiled, ifaces, maps, wideKeys, modest, calm, conditions, laid).
  DERIVED. THE GIVEN ROWS OF THIS SEAT. 7 by the template 'for every input the law returns true; each argument reads behind the call as it read before'; 0 by the template 'total and deterministic' (their statements: YtmehdghhnmnmiaaTotals.lean).
  GIVEN WITH THE SEED: the statements are not yours to turn. If you find one false, say at which input.
  Laid BY PROGRAM, IN A SANDBOX (cutbox-rows.mjs): the forced cells as the released guide's own fill.sh prints them over the translation 69d27df9a4ccda67… (all of the seat's roots in one cut). By AI agents, Wed Nov 11 2026. No macro, syntax, notation, axiom, sorry.
-/
import Derived.Test.YtmehdghhnmnmiaaChecked
import GoSem.Claim
import GoSem.ClaimJoined
import GoSem.ClaimMapViews
import Derived.JoinedTies
import Derived.KernelRfl
namespace Go.Proofs.Ytmehdghhnmnmiaa
/- THE CELL 'sum', in the pinned program and in every row, IS THE sha256 OF THE DUMP (.gsa) THAT YtmehdghhnmnmiaaProg.lean LOADS. Nothing in Lean hashes anything: it is a label: what it is worth is what the hold of that sum in a sandbox is worth. -/
noncomputable def Try.pinned : Pinned := { name := "ytmehdghhnmnmiaa", sum := "69d27df9a4ccda67c46966ca924f9248dd22c86e213de7eee0f0b7d8543d22b6", checked := Try.checked }
namespace Rows
def none {H : Type} : Left H := { results := [], args := [] }

/-- 'tattlelaw01.WireNums': WHATEVER THE INPUT: true; the input reads as it did. -/
def wireNumsSpec : ChangeSpec := { name := "wireNums", fn := fun _ => fun
  | [d1, d2, d3] => { results := [.lit (.bool true)], args := [d1, d2, d3] }
  | _ => none }
def wireNumsRow : OpenClaim := { program := "ytmehdghhnmnmiaa", sum := "69d27df9a4ccda67c46966ca924f9248dd22c86e213de7eee0f0b7d8543d22b6", func := "tattle/tattlelaw01.WireNums", spec := "wireNums", recurses := true, apart := false }
def WireNumsSaid : Prop := wireNumsRow.holds Try.pinned (OpenSpec.ofChange wireNumsSpec)

/-- ITS FALSE NEIGHBOUR: 'it returns false'. Refute it at one input. -/
def wireNumsWrong : ChangeSpec := { name := "wireNums", fn := fun _ => fun
  | [d1, d2, d3] => { results := [.lit (.bool false)], args := [d1, d2, d3] }
  | _ => none }
def WireNumsWrongFalsely : Prop := wireNumsRow.holds Try.pinned (OpenSpec.ofChange wireNumsWrong)

/-- 'tattlelaw01.WireSums': WHATEVER THE INPUT: true; the input reads as it did. -/
def wireSumsSpec : ChangeSpec := { name := "wireSums", fn := fun _ => fun
  | [d1, d2] => { results := [.lit (.bool true)], args := [d1, d2] }
  | _ => none }
def wireSumsRow : OpenClaim := { program := "ytmehdghhnmnmiaa", sum := "69d27df9a4ccda67c46966ca924f9248dd22c86e213de7eee0f0b7d8543d22b6", func := "tattle/tattlelaw01.WireSums", spec := "wireSums", apart := false }
def WireSumsSaid : Prop := wireSumsRow.holds Try.pinned (OpenSpec.ofChange wireSumsSpec)

/-- ITS FALSE NEIGHBOUR: 'it returns false'. Refute it at one input. -/
def wireSumsWrong : ChangeSpec := { name := "wireSums", fn := fun _ => fun
  | [d1, d2] => { results := [.lit (.bool false)], args := [d1, d2] }
  | _ => none }
def WireSumsWrongFalsely : Prop := wireSumsRow.holds Try.pinned (OpenSpec.ofChange wireSumsWrong)

/-- 'tattlelaw01.WireLong': WHATEVER THE INPUT: true; the input reads as it did. -/
def wireLongSpec : ChangeSpec := { name := "wireLong", fn := fun _ => fun
  | [d1, d2, d3] => { results := [.lit (.bool true)], args := [d1, d2, d3] }
  | _ => none }
def wireLongRow : OpenClaim := { program := "ytmehdghhnmnmiaa", sum := "69d27df9a4ccda67c46966ca924f9248dd22c86e213de7eee0f0b7d8543d22b6", func := "tattle/tattlelaw01.WireLong", spec := "wireLong", apart := false }
def WireLongSaid : Prop := wireLongRow.holds Try.pinned (OpenSpec.ofChange wireLongSpec)

/-- ITS FALSE NEIGHBOUR: 'it returns false'. Refute it at one input. -/
def wireLongWrong : ChangeSpec := { name := "wireLong", fn := fun _ => fun
  | [d1, d2, d3] => { results := [.lit (.bool false)], args := [d1, d2, d3] }
  | _ => none }
def WireLongWrongFalsely : Prop := wireLongRow.holds Try.pinned (OpenSpec.ofChange wireLongWrong)

/-- 'tattlelaw01.WireTexts': WHATEVER THE INPUT: true; the input reads as it did. -/
def wireTextsSpec : ChangeSpec := { name := "wireTexts", fn := fun _ => fun
  | [d1, d2, d3] => { results := [.lit (.bool true)], args := [d1, d2, d3] }
  | _ => none }
def wireTextsRow : OpenClaim := { program := "ytmehdghhnmnmiaa", sum := "69d27df9a4ccda67c46966ca924f9248dd22c86e213de7eee0f0b7d8543d22b6", func := "tattle/tattlelaw01.WireTexts", spec := "wireTexts", recurses := true, apart := false }
def WireTextsSaid : Prop := wireTextsRow.holds Try.pinned (OpenSpec.ofChange wireTextsSpec)

/-- ITS FALSE NEIGHBOUR: 'it returns false'. Refute it at one input. -/
def wireTextsWrong : ChangeSpec := { name := "wireTexts", fn := fun _ => fun
  | [d1, d2, d3] => { results := [.lit (.bool false)], args := [d1, d2, d3] }
  | _ => none }
def WireTextsWrongFalsely : Prop := wireTextsRow.holds Try.pinned (OpenSpec.ofChange wireTextsWrong)

/-- 'tattlelaw01.WireBacks': WHATEVER THE INPUT: true; the input reads as it did. -/
def wireBacksSpec : ChangeSpec := { name := "wireBacks", fn := fun _ => fun
  | [d] => { results := [.lit (.bool true)], args := [d] }
  | _ => none }
def wireBacksRow : OpenClaim := { program := "ytmehdghhnmnmiaa", sum := "69d27df9a4ccda67c46966ca924f9248dd22c86e213de7eee0f0b7d8543d22b6", func := "tattle/tattlelaw01.WireBacks", spec := "wireBacks", apart := false }
def WireBacksSaid : Prop := wireBacksRow.holds Try.pinned (OpenSpec.ofChange wireBacksSpec)

/-- ITS FALSE NEIGHBOUR: 'it returns false'. Refute it at one input. -/
def wireBacksWrong : ChangeSpec := { name := "wireBacks", fn := fun _ => fun
  | [d] => { results := [.lit (.bool false)], args := [d] }
  | _ => none }
def WireBacksWrongFalsely : Prop := wireBacksRow.holds Try.pinned (OpenSpec.ofChange wireBacksWrong)

/-- 'tattlelaw01.WireSeals': WHATEVER THE INPUT: true; the input reads as it did. -/
def wireSealsSpec : ChangeSpec := { name := "wireSeals", fn := fun _ => fun
  | [d] => { results := [.lit (.bool true)], args := [d] }
  | _ => none }
def wireSealsRow : OpenClaim := { program := "ytmehdghhnmnmiaa", sum := "69d27df9a4ccda67c46966ca924f9248dd22c86e213de7eee0f0b7d8543d22b6", func := "tattle/tattlelaw01.WireSeals", spec := "wireSeals", apart := false }
def WireSealsSaid : Prop := wireSealsRow.holds Try.pinned (OpenSpec.ofChange wireSealsSpec)

/-- ITS FALSE NEIGHBOUR: 'it returns false'. Refute it at one input. -/
def wireSealsWrong : ChangeSpec := { name := "wireSeals", fn := fun _ => fun
  | [d] => { results := [.lit (.bool false)], args := [d] }
  | _ => none }
def WireSealsWrongFalsely : Prop := wireSealsRow.holds Try.pinned (OpenSpec.ofChange wireSealsWrong)

/-- 'tattlelaw01.WireTurns': WHATEVER THE INPUT: true; the input reads as it did. -/
def wireTurnsSpec : ChangeSpec := { name := "wireTurns", fn := fun _ => fun
  | [d1, d2, d3] => { results := [.lit (.bool true)], args := [d1, d2, d3] }
  | _ => none }
def wireTurnsRow : OpenClaim := { program := "ytmehdghhnmnmiaa", sum := "69d27df9a4ccda67c46966ca924f9248dd22c86e213de7eee0f0b7d8543d22b6", func := "tattle/tattlelaw01.WireTurns", spec := "wireTurns", apart := false }
def WireTurnsSaid : Prop := wireTurnsRow.holds Try.pinned (OpenSpec.ofChange wireTurnsSpec)

/-- ITS FALSE NEIGHBOUR: 'it returns false'. Refute it at one input. -/
def wireTurnsWrong : ChangeSpec := { name := "wireTurns", fn := fun _ => fun
  | [d1, d2, d3] => { results := [.lit (.bool false)], args := [d1, d2, d3] }
  | _ => none }
def WireTurnsWrongFalsely : Prop := wireTurnsRow.holds Try.pinned (OpenSpec.ofChange wireTurnsWrong)

/- THE SECOND FORM. 'bulk': how many values and letters a reading holds, each counted each time it is reached (what is shared counts as often as it is met; a slice's spare places count too). A statement '..UptoSaid' is the law's where the arguments, and the package variables that the reading takes, are together of bulk at most 1048576: NARROWER than '..Said'. Prove '..Said' where nothing that the law and all that it calls make is longer than what came in: it says more and counts as full. Else prove '..UptoSaid'. A law counts once. -/
mutual
def uptoBulk {H : Type} : DataW H → Nat
  | .lit (.string bytes) => bytes.length + 1
  | .lit _ => 1
  | .nil => 1
  | .ptr d => uptoBulk d + 1
  | .slice elems spare => uptoBulkAll elems + uptoBulkAll spare + 1
  | .agg parts => uptoBulkAll parts + 1
  | .iface _ d => uptoBulk d + 1
  | .map entries => uptoBulkEntries entries + 1
  | .held _ => 1
def uptoBulkAll {H : Type} : List (DataW H) → Nat
  | [] => 0
  | d :: r => uptoBulk d + uptoBulkAll r
def uptoBulkEntries {H : Type} : List (Lit × DataW H) → Nat
  | [] => 0
  | x :: r => uptoBulkEntry x + uptoBulkEntries r
def uptoBulkEntry {H : Type} : Lit × DataW H → Nat
  | (.string bytes, d) => bytes.length + uptoBulk d + 1
  | (_, d) => uptoBulk d + 1
 end
def uptoSmall : (H : Type) → List (DataW H) → Bool := fun _ ds => decide (uptoBulkAll ds ≤ 1048576)
def OpenSpec.upto (s : _root_.Go.ChangeSpec) : _root_.Go.OpenSpec := { _root_.Go.OpenSpec.ofChange s with cond := some uptoSmall }

/-- 'tattlelaw01.WireNums', WHERE WHAT IT READS IS OF BULK AT MOST 1048576: true; the input reads as it did. -/
def wireNumsUptoRow : OpenClaim := { program := "ytmehdghhnmnmiaa", sum := "69d27df9a4ccda67c46966ca924f9248dd22c86e213de7eee0f0b7d8543d22b6", func := "tattle/tattlelaw01.WireNums", spec := "wireNums", recurses := true, apart := false, narrowed := true }
def WireNumsUptoSaid : Prop := wireNumsUptoRow.holds Try.pinned (OpenSpec.upto wireNumsSpec)

/-- 'tattlelaw01.WireSums', WHERE WHAT IT READS IS OF BULK AT MOST 1048576: true; the input reads as it did. -/
def wireSumsUptoRow : OpenClaim := { program := "ytmehdghhnmnmiaa", sum := "69d27df9a4ccda67c46966ca924f9248dd22c86e213de7eee0f0b7d8543d22b6", func := "tattle/tattlelaw01.WireSums", spec := "wireSums", apart := false, narrowed := true }
def WireSumsUptoSaid : Prop := wireSumsUptoRow.holds Try.pinned (OpenSpec.upto wireSumsSpec)

/-- 'tattlelaw01.WireLong', WHERE WHAT IT READS IS OF BULK AT MOST 1048576: true; the input reads as it did. -/
def wireLongUptoRow : OpenClaim := { program := "ytmehdghhnmnmiaa", sum := "69d27df9a4ccda67c46966ca924f9248dd22c86e213de7eee0f0b7d8543d22b6", func := "tattle/tattlelaw01.WireLong", spec := "wireLong", apart := false, narrowed := true }
def WireLongUptoSaid : Prop := wireLongUptoRow.holds Try.pinned (OpenSpec.upto wireLongSpec)

/-- 'tattlelaw01.WireTexts', WHERE WHAT IT READS IS OF BULK AT MOST 1048576: true; the input reads as it did. -/
def wireTextsUptoRow : OpenClaim := { program := "ytmehdghhnmnmiaa", sum := "69d27df9a4ccda67c46966ca924f9248dd22c86e213de7eee0f0b7d8543d22b6", func := "tattle/tattlelaw01.WireTexts", spec := "wireTexts", recurses := true, apart := false, narrowed := true }
def WireTextsUptoSaid : Prop := wireTextsUptoRow.holds Try.pinned (OpenSpec.upto wireTextsSpec)

/-- 'tattlelaw01.WireBacks', WHERE WHAT IT READS IS OF BULK AT MOST 1048576: true; the input reads as it did. -/
def wireBacksUptoRow : OpenClaim := { program := "ytmehdghhnmnmiaa", sum := "69d27df9a4ccda67c46966ca924f9248dd22c86e213de7eee0f0b7d8543d22b6", func := "tattle/tattlelaw01.WireBacks", spec := "wireBacks", apart := false, narrowed := true }
def WireBacksUptoSaid : Prop := wireBacksUptoRow.holds Try.pinned (OpenSpec.upto wireBacksSpec)

/-- 'tattlelaw01.WireSeals', WHERE WHAT IT READS IS OF BULK AT MOST 1048576: true; the input reads as it did. -/
def wireSealsUptoRow : OpenClaim := { program := "ytmehdghhnmnmiaa", sum := "69d27df9a4ccda67c46966ca924f9248dd22c86e213de7eee0f0b7d8543d22b6", func := "tattle/tattlelaw01.WireSeals", spec := "wireSeals", apart := false, narrowed := true }
def WireSealsUptoSaid : Prop := wireSealsUptoRow.holds Try.pinned (OpenSpec.upto wireSealsSpec)

/-- 'tattlelaw01.WireTurns', WHERE WHAT IT READS IS OF BULK AT MOST 1048576: true; the input reads as it did. -/
def wireTurnsUptoRow : OpenClaim := { program := "ytmehdghhnmnmiaa", sum := "69d27df9a4ccda67c46966ca924f9248dd22c86e213de7eee0f0b7d8543d22b6", func := "tattle/tattlelaw01.WireTurns", spec := "wireTurns", apart := false, narrowed := true }
def WireTurnsUptoSaid : Prop := wireTurnsUptoRow.holds Try.pinned (OpenSpec.upto wireTurnsSpec)

end Rows
end Go.Proofs.Ytmehdghhnmnmiaa
