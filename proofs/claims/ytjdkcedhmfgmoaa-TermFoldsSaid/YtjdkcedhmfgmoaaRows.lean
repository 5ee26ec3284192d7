/-
  NARROWER THAN 'FOR EVERY INPUT', by the rows' own cells (each row's printed sentence says how): TermHolds: loops · TermIs: loops · TermFolds: loops.
  DERIVED. THE GIVEN ROWS OF THIS SEAT. 4 by the template 'for every input the law returns true; each argument reads behind the call as it read before'; 0 by the template 'total and deterministic' (their statements: YtjdkcedhmfgmoaaTotals.lean).
  GIVEN WITH THE SEED: the statements are not yours to turn. If you find one false, say at which input.
  Laid BY PROGRAM, IN A SANDBOX (cutbox-rows.mjs): the forced cells as the released guide's own fill.sh prints them over the translation ce7661d9e8532290… (all of the seat's roots in one cut). By AI agents, Wed Nov 11 2026. No macro, syntax, notation, axiom, sorry.
-/
import Derived.Test.YtjdkcedhmfgmoaaChecked
import GoSem.Claim
import GoSem.ClaimJoined
import GoSem.ClaimMapViews
import Derived.JoinedTies
import Derived.KernelRfl
namespace Go.Proofs.Ytjdkcedhmfgmoaa
/- THE CELL 'sum', in the pinned program and in every row, IS THE sha256 OF THE DUMP (.gsa) THAT YtjdkcedhmfgmoaaProg.lean LOADS. Nothing in Lean hashes anything: it is a label: what it is worth is what the hold of that sum in a sandbox is worth. -/
noncomputable def Try.pinned : Pinned := { name := "ytjdkcedhmfgmoaa", sum := "ce7661d9e85322903c56089a5732e1ecac2d068fea65ec364aece39c061e5e83", checked := Try.checked }
namespace Rows
def none {H : Type} : Left H := { results := [], args := [] }

/-- 'rowlocklaw18.TermHolds': WHATEVER THE INPUT: true; the input reads as it did. -/
def termHoldsSpec : ChangeSpec := { name := "termHolds", fn := fun _ => fun
  | [d1, d2, d3] => { results := [.lit (.bool true)], args := [d1, d2, d3] }
  | _ => none }
def termHoldsRow : OpenClaim := { program := "ytjdkcedhmfgmoaa", sum := "ce7661d9e85322903c56089a5732e1ecac2d068fea65ec364aece39c061e5e83", func := "rowlock/rowlocklaw18.TermHolds", spec := "termHolds", inPlace := ["math/bits.Add64", "internal/bytealg.abigen_runtime_cmpstring"], recurses := true, loops := true, apart := false }
def TermHoldsSaid : Prop := termHoldsRow.holds Try.pinned (OpenSpec.ofChange termHoldsSpec)

/-- ITS FALSE NEIGHBOUR: 'it returns false'. Refute it at one input. -/
def termHoldsWrong : ChangeSpec := { name := "termHolds", fn := fun _ => fun
  | [d1, d2, d3] => { results := [.lit (.bool false)], args := [d1, d2, d3] }
  | _ => none }
def TermHoldsWrongFalsely : Prop := termHoldsRow.holds Try.pinned (OpenSpec.ofChange termHoldsWrong)

/-- 'rowlocklaw18.TermIs': WHATEVER THE INPUT: true; the input reads as it did. -/
def termIsSpec : ChangeSpec := { name := "termIs", fn := fun _ => fun
  | [d1, d2, d3] => { results := [.lit (.bool true)], args := [d1, d2, d3] }
  | _ => none }
def termIsRow : OpenClaim := { program := "ytjdkcedhmfgmoaa", sum := "ce7661d9e85322903c56089a5732e1ecac2d068fea65ec364aece39c061e5e83", func := "rowlock/rowlocklaw18.TermIs", spec := "termIs", inPlace := ["math/bits.Add64", "internal/bytealg.abigen_runtime_cmpstring"], unfollowed := true, recurses := true, loops := true, apart := false }
def TermIsSaid : Prop := termIsRow.holds Try.pinned (OpenSpec.ofChange termIsSpec)

/-- ITS FALSE NEIGHBOUR: 'it returns false'. Refute it at one input. -/
def termIsWrong : ChangeSpec := { name := "termIs", fn := fun _ => fun
  | [d1, d2, d3] => { results := [.lit (.bool false)], args := [d1, d2, d3] }
  | _ => none }
def TermIsWrongFalsely : Prop := termIsRow.holds Try.pinned (OpenSpec.ofChange termIsWrong)

/-- 'rowlocklaw18.TermFolds': WHATEVER THE INPUT: true; the input reads as it did. -/
def termFoldsSpec : ChangeSpec := { name := "termFolds", fn := fun _ => fun
  | [d1, d2, d3] => { results := [.lit (.bool true)], args := [d1, d2, d3] }
  | _ => none }
def termFoldsRow : OpenClaim := { program := "ytjdkcedhmfgmoaa", sum := "ce7661d9e85322903c56089a5732e1ecac2d068fea65ec364aece39c061e5e83", func := "rowlock/rowlocklaw18.TermFolds", spec := "termFolds", inPlace := ["math/bits.Add64", "internal/bytealg.abigen_runtime_cmpstring"], unfollowed := true, recurses := true, loops := true, apart := false }
def TermFoldsSaid : Prop := termFoldsRow.holds Try.pinned (OpenSpec.ofChange termFoldsSpec)

/-- ITS FALSE NEIGHBOUR: 'it returns false'. Refute it at one input. -/
def termFoldsWrong : ChangeSpec := { name := "termFolds", fn := fun _ => fun
  | [d1, d2, d3] => { results := [.lit (.bool false)], args := [d1, d2, d3] }
  | _ => none }
def TermFoldsWrongFalsely : Prop := termFoldsRow.holds Try.pinned (OpenSpec.ofChange termFoldsWrong)

/-- 'rowlocklaw20.StatsNumbers': WHATEVER THE INPUT: true; the input reads as it did. -/
def statsNumbersSpec : ChangeSpec := { name := "statsNumbers", fn := fun _ => fun
  | [d1, d2] => { results := [.lit (.bool true)], args := [d1, d2] }
  | _ => none }
def statsNumbersRow : OpenClaim := { program := "ytjdkcedhmfgmoaa", sum := "ce7661d9e85322903c56089a5732e1ecac2d068fea65ec364aece39c061e5e83", func := "rowlock/rowlocklaw20.StatsNumbers", spec := "statsNumbers", inPlace := ["math/bits.Add64", "internal/bytealg.abigen_runtime_cmpstring"], unfollowed := true, recurses := true, named := ["math/bits.divideError", "math/bits.overflowError"], apart := false }
def StatsNumbersSaid : Prop := statsNumbersRow.holds Try.pinned (OpenSpec.ofChange statsNumbersSpec)

/-- ITS FALSE NEIGHBOUR: 'it returns false'. Refute it at one input. -/
def statsNumbersWrong : ChangeSpec := { name := "statsNumbers", fn := fun _ => fun
  | [d1, d2] => { results := [.lit (.bool false)], args := [d1, d2] }
  | _ => none }
def StatsNumbersWrongFalsely : Prop := statsNumbersRow.holds Try.pinned (OpenSpec.ofChange statsNumbersWrong)

/- THE SECOND FORM. 'bulk': how many values and letters a reading holds, each counted each time it is reached (what is shared counts as often as it is met; a slice's spare places count too). A statement '..UptoSaid' is the law's where the arguments, and the package variables that the reading takes, are together of bulk at most 1048576: NARROWER than '..Said'. Prove '..Said' where nothing that the law and all that it calls make is longer than what came in: it says more and counts as full. Else prove '..UptoSaid'. A law counts once. -/
mutual
def uptoBulk {H : Type} : DataW H → Nat
  | .lit (.string bytes) => bytes.length + 1
  | .lit _ => 1
  | .nil => 1
  | .ptr d => uptoBulk d + 1
  | .slice elems spare => uptoBulkAll elems + uptoBulkAll spare + 1
  | .agg parts => uptoBulkAll parts + 1
  | .iface _ d => uptoBulk d + 1
  | .map entries => uptoBulkEntries entries + 1
  | .held _ => 1
def uptoBulkAll {H : Type} : List (DataW H) → Nat
  | [] => 0
  | d :: r => uptoBulk d + uptoBulkAll r
def uptoBulkEntries {H : Type} : List (Lit × DataW H) → Nat
  | [] => 0
  | x :: r => uptoBulkEntry x + uptoBulkEntries r
def uptoBulkEntry {H : Type} : Lit × DataW H → Nat
  | (.string bytes, d) => bytes.length + uptoBulk d + 1
  | (_, d) => uptoBulk d + 1
 end
def uptoSmall : (H : Type) → List (DataW H) → Bool := fun _ ds => decide (uptoBulkAll ds ≤ 1048576)
def OpenSpec.upto (s : _root_.Go.ChangeSpec) : _root_.Go.OpenSpec := { _root_.Go.OpenSpec.ofChange s with cond := some uptoSmall }

/-- 'rowlocklaw18.TermHolds', WHERE WHAT IT READS IS OF BULK AT MOST 1048576: true; the input reads as it did. -/
def termHoldsUptoRow : OpenClaim := { program := "ytjdkcedhmfgmoaa", sum := "ce7661d9e85322903c56089a5732e1ecac2d068fea65ec364aece39c061e5e83", func := "rowlock/rowlocklaw18.TermHolds", spec := "termHolds", inPlace := ["math/bits.Add64", "internal/bytealg.abigen_runtime_cmpstring"], recurses := true, loops := true, apart := false, narrowed := true }
def TermHoldsUptoSaid : Prop := termHoldsUptoRow.holds Try.pinned (OpenSpec.upto termHoldsSpec)

/-- 'rowlocklaw18.TermIs', WHERE WHAT IT READS IS OF BULK AT MOST 1048576: true; the input reads as it did. -/
def termIsUptoRow : OpenClaim := { program := "ytjdkcedhmfgmoaa", sum := "ce7661d9e85322903c56089a5732e1ecac2d068fea65ec364aece39c061e5e83", func := "rowlock/rowlocklaw18.TermIs", spec := "termIs", inPlace := ["math/bits.Add64", "internal/bytealg.abigen_runtime_cmpstring"], unfollowed := true, recurses := true, loops := true, apart := false, narrowed := true }
def TermIsUptoSaid : Prop := termIsUptoRow.holds Try.pinned (OpenSpec.upto termIsSpec)

/-- 'rowlocklaw18.TermFolds', WHERE WHAT IT READS IS OF BULK AT MOST 1048576: true; the input reads as it did. -/
def termFoldsUptoRow : OpenClaim := { program := "ytjdkcedhmfgmoaa", sum := "ce7661d9e85322903c56089a5732e1ecac2d068fea65ec364aece39c061e5e83", func := "rowlock/rowlocklaw18.TermFolds", spec := "termFolds", inPlace := ["math/bits.Add64", "internal/bytealg.abigen_runtime_cmpstring"], unfollowed := true, recurses := true, loops := true, apart := false, narrowed := true }
def TermFoldsUptoSaid : Prop := termFoldsUptoRow.holds Try.pinned (OpenSpec.upto termFoldsSpec)

/-- 'rowlocklaw20.StatsNumbers', WHERE WHAT IT READS IS OF BULK AT MOST 1048576: true; the input reads as it did. -/
def statsNumbersUptoRow : OpenClaim := { program := "ytjdkcedhmfgmoaa", sum := "ce7661d9e85322903c56089a5732e1ecac2d068fea65ec364aece39c061e5e83", func := "rowlock/rowlocklaw20.StatsNumbers", spec := "statsNumbers", inPlace := ["math/bits.Add64", "internal/bytealg.abigen_runtime_cmpstring"], unfollowed := true, recurses := true, named := ["math/bits.divideError", "math/bits.overflowError"], apart := false, narrowed := true }
def StatsNumbersUptoSaid : Prop := statsNumbersUptoRow.holds Try.pinned (OpenSpec.upto statsNumbersSpec)

end Rows
end Go.Proofs.Ytjdkcedhmfgmoaa
