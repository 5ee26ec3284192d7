/- As the cards ask it (the session's own words). -/
import Derived.Test.YtcdeidljcmlfdaaDoorOpS
import Derived.Test.YtcdeidljcmlfdaaDoorXh
namespace Go.Proofs.YtcdeidljcmlfdaaDoor
open Go Go.Eng Go.Proofs Go.RowKit
set_option linter.unusedVariables false
set_option linter.unusedSimpArgs false
theorem wf_u16 {n : Int} (h : (Lit.int .u16 n).wf = true) : ∃ m : Nat, m < 65536 ∧ n = (m : Int) := by
  have : 0 ≤ n ∧ n < 65536 := by
    simp [Lit.wf, IntKind.min, IntKind.max, IntKind.signed, IntKind.bits] at h
    omega
  exact ⟨n.toNat, by omega, by omega⟩
theorem lexMany_ok (n : Int) (b : Bool) (hn : (Lit.int .u16 n).wf = true) (hb : True) : FF 4 [.v (.int .u16 n), .v (.bool b)] = some (.v (.bool true)) := by
  obtain ⟨m, hm, rfl⟩ := wf_u16 hn
  exact lexMany m hm b
end Go.Proofs.YtcdeidljcmlfdaaDoor
