/- As the card asks it (the session's own words). -/
import Derived.Test.YtcdeidljcmlfdaaDoorOpS
import Derived.Test.YtcdeidljcmlfdaaDoorXk
namespace Go.Proofs.YtcdeidljcmlfdaaDoor
open Go Go.Eng Go.Proofs Go.RowKit
set_option linter.unusedVariables false
set_option linter.unusedSimpArgs false
def u8I (x : Int) : List D := [.v (.int .u8 x)]
theorem opd_bytes (m : Nat) : OpD Tryd.prog 22 (fun l : List Int => [.sl (l.map u8I)]) (fun l => l.length ≤ maxLen ∧ ∀ x ∈ l, (Lit.int .u8 x).wf = true) m :=
  opd_slice (k := 1) Tryd.underlying22 (by kernel_rfl) (by decide) (fun _ => rfl) (fun _ => rfl) m (opd_int Tryd.underlying5 m)
theorem lexStands_ok (q : ByteArray) (l : List Int) (hq : q.size ≤ maxLen) (hl : l.length ≤ maxLen ∧ ∀ x ∈ l, (Lit.int .u8 x).wf = true) : FF 3 [.v (.string q), .sl (l.map u8I)] = some (.v (.bool true)) := by
  have e : l.map u8I = (l.map Int.toNat).map u8C := by
    rw [List.map_map]
    refine List.map_congr_left fun x hx => ?_
    have h := hl.2 x hx
    have h0 : 0 ≤ x := by
      simp [Lit.wf, IntKind.min, IntKind.max, IntKind.signed, IntKind.bits] at h
      omega
    show [D.v (.int .u8 x)] = [D.v (.int .u8 (x.toNat : Int))]
    rw [Int.toNat_of_nonneg h0]
  rw [e]
  exact lexStands q _ hq (by simpa using hl.1)
end Go.Proofs.YtcdeidljcmlfdaaDoor
