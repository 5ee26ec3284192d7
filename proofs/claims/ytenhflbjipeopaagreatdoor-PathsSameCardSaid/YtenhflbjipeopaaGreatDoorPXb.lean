/- Plans' texts: paths, tables (the session's own words). -/
import Derived.Test.YtenhflbjipeopaaGreatDoorPXa
namespace Go.Proofs.YtenhflbjipeopaaGreatDoor
open Go Go.Eng Go.Proofs
set_option linter.unusedVariables false
set_option linter.unusedSimpArgs false
set_option maxRecDepth 100000
set_option maxHeartbeats 4000000
abbrev in64 (n : Int) : Prop := -9223372036854775808 ≤ n ∧ n ≤ 9223372036854775807
def okBok (b : Bok) : Prop := b.indexes.length ≤ 140737488355328 ∧ b.tables.length ≤ 140737488355328 ∧ (∀ x ∈ b.indexes, x.name.size ≤ 140737488355328) ∧ ∀ x ∈ b.tables, x.name.size ≤ 140737488355328
theorem iname_size {b : Bok} (h : okBok b) (i : Int) : (iname b i).size ≤ 140737488355328 := by
  unfold iname
  split
  · decide
  · split
    · rename_i x hx
      exact h.2.2.1 x (List.mem_of_getElem? hx)
    · decide
def okPth (p : Pth) : Prop := in64 p.index ∧ in64 p.other ∧ p.conds.length ≤ 140737488355328 ∧ p.more.length ≤ 140737488355328 ∧ p.ranges.length ≤ 140737488355328
end Go.Proofs.YtenhflbjipeopaaGreatDoor
