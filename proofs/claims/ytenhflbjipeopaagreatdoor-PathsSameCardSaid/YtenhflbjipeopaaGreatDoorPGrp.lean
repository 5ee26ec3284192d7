/- One group of all combos: the walk, to the cell (the session's own words). -/
import Derived.Test.YtenhflbjipeopaaGreatDoorProg
import Derived.Test.YtenhflbjipeopaaGreatDoorPPrk
import Derived.WalkKit
namespace Go.Proofs.YtenhflbjipeopaaGreatDoor
open Go Go.Eng Go.RowKit Go.Proofs
set_option linter.unusedVariables false
set_option linter.unusedSimpArgs false
set_option maxRecDepth 100000
set_option maxHeartbeats 2000000
theorem groups_walk (x0 x1 x2 x3 x4 x5 x6 x8 x9 x10 : Value) (a : Option Addr) (c : Nat) (a' : Option Addr) (n' c' : Nat) (w : World) :
    Calls Tryz.prog 63 #[.agg #[x0, x1, x2, x3, x4, x5, x6, .slice a 0 c, x8, x9, x10], .slice a' n' c'] w fun e w' => e = .returned (.tuple #[.slice (some ⟨w.heap.size + 1 + 1, 0, none⟩) 1 1, .bool true]) ∧
      w' = ((w.alloc (.cells #[x0, x1, x2, x3, x4, x5, x6, .slice a 0 c, x8, x9, x10] 56)).alloc (.cells #[.slice a' n' c'] 123)).alloc (.cells #[.pointer (some ⟨w.heap.size + 1, 0, none⟩)] 121) := by
  go_enter Tryz.func63, Tryz.ntmps63
  go_wp2
  go_ret2
  exact ⟨rfl, rfl⟩
end Go.Proofs.YtenhflbjipeopaaGreatDoor
