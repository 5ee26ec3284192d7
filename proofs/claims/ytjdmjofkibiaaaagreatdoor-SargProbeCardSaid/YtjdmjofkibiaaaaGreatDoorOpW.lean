/- As the card asks it (the session's own words). -/
import Derived.Test.YtjdmjofkibiaaaaGreatDoorOpr
import Derived.Test.YtjdmjofkibiaaaaGreatDoorSn
namespace Go.Proofs.YtjdmjofkibiaaaaGreatDoor
open Go Go.Eng Go.Proofs Go.RowKit
set_option linter.unusedVariables false
set_option linter.unusedSimpArgs false
def okVal (v : Val) : Prop := i64 v.int
theorem vcs_one (v : Val) : (valCells v).all one = true := (rfl)
theorem opr_val : ∀ m, OpR Tryz.prog 23 valCells okVal m
  | 0 => opr_zero
  | m + 1 => opr_map (opr_struct Tryz.underlying23 (by kernel_rfl) (fsr_cons (k := 1) (opr_int Tryz.underlying5 m) (by kernel_rfl) (fsr_cons (k := 1) (opr_int Tryz.underlying2 m) (by kernel_rfl) (fsr_one (n := 1) (opr_string Tryz.underlying9 m) (by kernel_rfl)) rfl) rfl)) (fun y => (⟨y.1, y.2.1, y.2.2⟩ : Val)) (fun y => rfl) (fun y h => by have := h.2.1; unfold okVal i64; simp [Lit.wf, IntKind.min, IntKind.max, IntKind.signed, IntKind.bits] at this; exact this)
theorem opr_vals (m : Nat) : OpR Tryz.prog 29 (fun l : List Val => [.sl (l.map valCells)]) (fun l => l.length * Tryz.prog.bytesOf 23 ≤ 140737488351232 ∧ ∀ v ∈ l, okVal v) m :=
  opr_sliceB (k := 3) Tryz.underlying29 (by kernel_rfl) (by decide) (of_decide_eq_true (by kernel_rfl)) (fun _ => rfl) vcs_one m (opr_val m)
theorem bytes_val : Tryz.prog.bytesOf 23 = 32 := by kernel_rfl
theorem sargProbe_ok (v : Val) (l : List Val) (hv : okVal v) (hl : l.length * Tryz.prog.bytesOf 23 ≤ 140737488351232 ∧ ∀ v ∈ l, okVal v) : FF 4 [.agg (valCells v), .sl (l.map valCells)] = some (.v (.bool true)) := by
  rw [bytes_val] at hl
  exact sargProbe v l hv hl.2 hl.1
end Go.Proofs.YtjdmjofkibiaaaaGreatDoor
