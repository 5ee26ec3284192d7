/-
  No cell of these rows narrows 'for every input' (looked for: loops, veiled, ifaces, maps, wideKeys, modest, calm, conditions, laid).
  DERIVED. THE GIVEN ROWS OF THIS SEAT. 5 by the template 'for every input the law returns true; each argument reads behind the call as it read before'; 0 by the template 'total and deterministic' (their statements: YtneihjdkaogkiaaTotals.lean).
  GIVEN WITH THE SEED: the statements are not yours to turn. If you find one false, say at which input.
  Laid BY PROGRAM, IN A SANDBOX (cutbox-rows.mjs): the forced cells as the released guide's own fill.sh prints them over the translation a5f93ba5148ebe09… (all of the seat's roots in one cut). By AI agents, Wed Nov 11 2026. No macro, syntax, notation, axiom, sorry.
-/
import Derived.Test.YtneihjdkaogkiaaChecked
import GoSem.Claim
import GoSem.ClaimJoined
import GoSem.ClaimMapViews
import Derived.JoinedTies
import Derived.KernelRfl
namespace Go.Proofs.Ytneihjdkaogkiaa
/- THE CELL 'sum', in the pinned program and in every row, IS THE sha256 OF THE DUMP (.gsa) THAT YtneihjdkaogkiaaProg.lean LOADS. Nothing in Lean hashes anything: it is a label: what it is worth is what the hold of that sum in a sandbox is worth. -/
noncomputable def Try.pinned : Pinned := { name := "ytneihjdkaogkiaa", sum := "a5f93ba5148ebe093ef0e84376acbdadb483453f4b110f71fc128c0b4197425c", checked := Try.checked }
namespace Rows
def none {H : Type} : Left H := { results := [], args := [] }

/-- 'rowlocklaw03.CalcSum': WHATEVER THE INPUT: true; the input reads as it did. -/
def calcSumSpec : ChangeSpec := { name := "calcSum", fn := fun _ => fun
  | [d1, d2] => { results := [.lit (.bool true)], args := [d1, d2] }
  | _ => none }
def calcSumRow : OpenClaim := { program := "ytneihjdkaogkiaa", sum := "a5f93ba5148ebe093ef0e84376acbdadb483453f4b110f71fc128c0b4197425c", func := "rowlock/rowlocklaw03.CalcSum", spec := "calcSum", inPlace := ["math/bits.Add64"], named := ["math/bits.divideError", "math/bits.overflowError"], apart := false }
def CalcSumSaid : Prop := calcSumRow.holds Try.pinned (OpenSpec.ofChange calcSumSpec)

/-- ITS FALSE NEIGHBOUR: 'it returns false'. Refute it at one input. -/
def calcSumWrong : ChangeSpec := { name := "calcSum", fn := fun _ => fun
  | [d1, d2] => { results := [.lit (.bool false)], args := [d1, d2] }
  | _ => none }
def CalcSumWrongFalsely : Prop := calcSumRow.holds Try.pinned (OpenSpec.ofChange calcSumWrong)

/-- 'rowlocklaw03.CalcTimes': WHATEVER THE INPUT: true; the input reads as it did. -/
def calcTimesSpec : ChangeSpec := { name := "calcTimes", fn := fun _ => fun
  | [d1, d2, d3] => { results := [.lit (.bool true)], args := [d1, d2, d3] }
  | _ => none }
def calcTimesRow : OpenClaim := { program := "ytneihjdkaogkiaa", sum := "a5f93ba5148ebe093ef0e84376acbdadb483453f4b110f71fc128c0b4197425c", func := "rowlock/rowlocklaw03.CalcTimes", spec := "calcTimes", inPlace := ["math/bits.Add64"], named := ["math/bits.divideError", "math/bits.overflowError"], apart := false }
def CalcTimesSaid : Prop := calcTimesRow.holds Try.pinned (OpenSpec.ofChange calcTimesSpec)

/-- ITS FALSE NEIGHBOUR: 'it returns false'. Refute it at one input. -/
def calcTimesWrong : ChangeSpec := { name := "calcTimes", fn := fun _ => fun
  | [d1, d2, d3] => { results := [.lit (.bool false)], args := [d1, d2, d3] }
  | _ => none }
def CalcTimesWrongFalsely : Prop := calcTimesRow.holds Try.pinned (OpenSpec.ofChange calcTimesWrong)

/-- 'rowlocklaw03.CalcIs': WHATEVER THE INPUT: true; the input reads as it did. -/
def calcIsSpec : ChangeSpec := { name := "calcIs", fn := fun _ => fun
  | [d1, d2] => { results := [.lit (.bool true)], args := [d1, d2] }
  | _ => none }
def calcIsRow : OpenClaim := { program := "ytneihjdkaogkiaa", sum := "a5f93ba5148ebe093ef0e84376acbdadb483453f4b110f71fc128c0b4197425c", func := "rowlock/rowlocklaw03.CalcIs", spec := "calcIs", inPlace := ["math/bits.Add64"], named := ["math/bits.divideError", "math/bits.overflowError"], apart := false }
def CalcIsSaid : Prop := calcIsRow.holds Try.pinned (OpenSpec.ofChange calcIsSpec)

/-- ITS FALSE NEIGHBOUR: 'it returns false'. Refute it at one input. -/
def calcIsWrong : ChangeSpec := { name := "calcIs", fn := fun _ => fun
  | [d1, d2] => { results := [.lit (.bool false)], args := [d1, d2] }
  | _ => none }
def CalcIsWrongFalsely : Prop := calcIsRow.holds Try.pinned (OpenSpec.ofChange calcIsWrong)

/-- 'rowlocklaw03.CalcBack': WHATEVER THE INPUT: true; the input reads as it did. -/
def calcBackSpec : ChangeSpec := { name := "calcBack", fn := fun _ => fun
  | [d1, d2] => { results := [.lit (.bool true)], args := [d1, d2] }
  | _ => none }
def calcBackRow : OpenClaim := { program := "ytneihjdkaogkiaa", sum := "a5f93ba5148ebe093ef0e84376acbdadb483453f4b110f71fc128c0b4197425c", func := "rowlock/rowlocklaw03.CalcBack", spec := "calcBack", inPlace := ["math/bits.Add64"], named := ["math/bits.divideError", "math/bits.overflowError"], apart := false }
def CalcBackSaid : Prop := calcBackRow.holds Try.pinned (OpenSpec.ofChange calcBackSpec)

/-- ITS FALSE NEIGHBOUR: 'it returns false'. Refute it at one input. -/
def calcBackWrong : ChangeSpec := { name := "calcBack", fn := fun _ => fun
  | [d1, d2] => { results := [.lit (.bool false)], args := [d1, d2] }
  | _ => none }
def CalcBackWrongFalsely : Prop := calcBackRow.holds Try.pinned (OpenSpec.ofChange calcBackWrong)

/-- 'rowlocklaw03.CalcDo': WHATEVER THE INPUT: true; the input reads as it did. -/
def calcDoSpec : ChangeSpec := { name := "calcDo", fn := fun _ => fun
  | [d1, d2, d3] => { results := [.lit (.bool true)], args := [d1, d2, d3] }
  | _ => none }
def calcDoRow : OpenClaim := { program := "ytneihjdkaogkiaa", sum := "a5f93ba5148ebe093ef0e84376acbdadb483453f4b110f71fc128c0b4197425c", func := "rowlock/rowlocklaw03.CalcDo", spec := "calcDo", inPlace := ["math/bits.Add64"], named := ["math/bits.divideError", "math/bits.overflowError"], apart := false }
def CalcDoSaid : Prop := calcDoRow.holds Try.pinned (OpenSpec.ofChange calcDoSpec)

/-- ITS FALSE NEIGHBOUR: 'it returns false'. Refute it at one input. -/
def calcDoWrong : ChangeSpec := { name := "calcDo", fn := fun _ => fun
  | [d1, d2, d3] => { results := [.lit (.bool false)], args := [d1, d2, d3] }
  | _ => none }
def CalcDoWrongFalsely : Prop := calcDoRow.holds Try.pinned (OpenSpec.ofChange calcDoWrong)

/- THE SECOND FORM. 'bulk': how many values and letters a reading holds, each counted each time it is reached (what is shared counts as often as it is met; a slice's spare places count too). A statement '..UptoSaid' is the law's where the arguments, and the package variables that the reading takes, are together of bulk at most 1048576: NARROWER than '..Said'. Prove '..Said' where nothing that the law and all that it calls make is longer than what came in: it says more and counts as full. Else prove '..UptoSaid'. A law counts once. -/
mutual
def uptoBulk {H : Type} : DataW H → Nat
  | .lit (.string bytes) => bytes.length + 1
  | .lit _ => 1
  | .nil => 1
  | .ptr d => uptoBulk d + 1
  | .slice elems spare => uptoBulkAll elems + uptoBulkAll spare + 1
  | .agg parts => uptoBulkAll parts + 1
  | .iface _ d => uptoBulk d + 1
  | .map entries => uptoBulkEntries entries + 1
  | .held _ => 1
def uptoBulkAll {H : Type} : List (DataW H) → Nat
  | [] => 0
  | d :: r => uptoBulk d + uptoBulkAll r
def uptoBulkEntries {H : Type} : List (Lit × DataW H) → Nat
  | [] => 0
  | x :: r => uptoBulkEntry x + uptoBulkEntries r
def uptoBulkEntry {H : Type} : Lit × DataW H → Nat
  | (.string bytes, d) => bytes.length + uptoBulk d + 1
  | (_, d) => uptoBulk d + 1
 end
def uptoSmall : (H : Type) → List (DataW H) → Bool := fun _ ds => decide (uptoBulkAll ds ≤ 1048576)
def OpenSpec.upto (s : _root_.Go.ChangeSpec) : _root_.Go.OpenSpec := { _root_.Go.OpenSpec.ofChange s with cond := some uptoSmall }

/-- 'rowlocklaw03.CalcSum', WHERE WHAT IT READS IS OF BULK AT MOST 1048576: true; the input reads as it did. -/
def calcSumUptoRow : OpenClaim := { program := "ytneihjdkaogkiaa", sum := "a5f93ba5148ebe093ef0e84376acbdadb483453f4b110f71fc128c0b4197425c", func := "rowlock/rowlocklaw03.CalcSum", spec := "calcSum", inPlace := ["math/bits.Add64"], named := ["math/bits.divideError", "math/bits.overflowError"], apart := false, narrowed := true }
def CalcSumUptoSaid : Prop := calcSumUptoRow.holds Try.pinned (OpenSpec.upto calcSumSpec)

/-- 'rowlocklaw03.CalcTimes', WHERE WHAT IT READS IS OF BULK AT MOST 1048576: true; the input reads as it did. -/
def calcTimesUptoRow : OpenClaim := { program := "ytneihjdkaogkiaa", sum := "a5f93ba5148ebe093ef0e84376acbdadb483453f4b110f71fc128c0b4197425c", func := "rowlock/rowlocklaw03.CalcTimes", spec := "calcTimes", inPlace := ["math/bits.Add64"], named := ["math/bits.divideError", "math/bits.overflowError"], apart := false, narrowed := true }
def CalcTimesUptoSaid : Prop := calcTimesUptoRow.holds Try.pinned (OpenSpec.upto calcTimesSpec)

/-- 'rowlocklaw03.CalcIs', WHERE WHAT IT READS IS OF BULK AT MOST 1048576: true; the input reads as it did. -/
def calcIsUptoRow : OpenClaim := { program := "ytneihjdkaogkiaa", sum := "a5f93ba5148ebe093ef0e84376acbdadb483453f4b110f71fc128c0b4197425c", func := "rowlock/rowlocklaw03.CalcIs", spec := "calcIs", inPlace := ["math/bits.Add64"], named := ["math/bits.divideError", "math/bits.overflowError"], apart := false, narrowed := true }
def CalcIsUptoSaid : Prop := calcIsUptoRow.holds Try.pinned (OpenSpec.upto calcIsSpec)

/-- 'rowlocklaw03.CalcBack', WHERE WHAT IT READS IS OF BULK AT MOST 1048576: true; the input reads as it did. -/
def calcBackUptoRow : OpenClaim := { program := "ytneihjdkaogkiaa", sum := "a5f93ba5148ebe093ef0e84376acbdadb483453f4b110f71fc128c0b4197425c", func := "rowlock/rowlocklaw03.CalcBack", spec := "calcBack", inPlace := ["math/bits.Add64"], named := ["math/bits.divideError", "math/bits.overflowError"], apart := false, narrowed := true }
def CalcBackUptoSaid : Prop := calcBackUptoRow.holds Try.pinned (OpenSpec.upto calcBackSpec)

/-- 'rowlocklaw03.CalcDo', WHERE WHAT IT READS IS OF BULK AT MOST 1048576: true; the input reads as it did. -/
def calcDoUptoRow : OpenClaim := { program := "ytneihjdkaogkiaa", sum := "a5f93ba5148ebe093ef0e84376acbdadb483453f4b110f71fc128c0b4197425c", func := "rowlock/rowlocklaw03.CalcDo", spec := "calcDo", inPlace := ["math/bits.Add64"], named := ["math/bits.divideError", "math/bits.overflowError"], apart := false, narrowed := true }
def CalcDoUptoSaid : Prop := calcDoUptoRow.holds Try.pinned (OpenSpec.upto calcDoSpec)

end Rows
end Go.Proofs.Ytneihjdkaogkiaa
