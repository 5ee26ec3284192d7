/- Answers that read as data (the session's own words). -/
import Derived.Test.YtjdkcedhmfgmoaaDoorNYd
import Derived.Test.YtjdkcedhmfgmoaaDoorNOpr
namespace Go.Proofs.YtjdkcedhmfgmoaaDoor
open Go Go.Eng Go.Proofs Go.RowKit
set_option linter.unusedVariables false
set_option linter.unusedSimpArgs false
theorem i64_of {n : Int} (h : (Lit.int .i64 n).wf = true) : in64 n := by
  have := wf_i64 h
  exact ⟨this.1, by have := this.2; omega⟩
theorem opr_value : ∀ m, OpR Tryd.prog 55 valCells (fun v => in64 v.int) m
  | 0 => opr_zero
  | m + 1 => opr_map (opr_struct Tryd.underlying55 (by kernel_rfl) (fsr_cons (k := 1) (opr_int Tryd.underlying5 m) (by kernel_rfl) (fsr_cons (k := 1) (opr_int Tryd.underlying2 m) (by kernel_rfl) (fsr_one (n := 1) (opr_string Tryd.underlying9 m) (by kernel_rfl)) rfl) rfl)) (fun y => (⟨y.1, y.2.1, y.2.2⟩ : Val)) (fun y => rfl) (fun y h => i64_of h.2.1)
theorem opr_row (m : Nat) : OpR Tryd.prog 49 rowC (fun l => l.length ≤ 140737488351232 ∧ ∀ v ∈ l, in64 v.int) m :=
  opr_slice (k := 3) Tryd.underlying49 (by kernel_rfl) (by decide) (of_decide_eq_true (by kernel_rfl)) (fun _ => rfl) (fun _ => rfl) m (opr_value m)
theorem opr_rows (m : Nat) : OpR Tryd.prog 40 (fun l : List (List Val) => [.sl (l.map rowC)]) (fun l => l.length ≤ 140737488351232 ∧ ∀ r ∈ l, r.length ≤ 140737488351232 ∧ ∀ v ∈ r, in64 v.int) m :=
  opr_slice (k := 1) Tryd.underlying40 (by kernel_rfl) (by decide) (of_decide_eq_true (by kernel_rfl)) (fun _ => rfl) (fun _ => rfl) m (opr_row m)
theorem opr_strs (m : Nat) : OpR Tryd.prog 28 (fun l : List ByteArray => [.sl (l.map strC)]) (fun l => l.length ≤ 140737488351232 ∧ ∀ s ∈ l, s.size ≤ 140737488351232) m :=
  opr_slice (k := 1) Tryd.underlying28 (by kernel_rfl) (by decide) (of_decide_eq_true (by kernel_rfl)) (fun _ => rfl) (fun _ => rfl) m (opr_string Tryd.underlying9 m)
def okAnsR (a : Ans) : Prop := (a.names.length ≤ 140737488351232 ∧ ∀ s ∈ a.names, s.size ≤ 140737488351232) ∧ a.rows.length ≤ 140737488351232 ∧ ∀ r ∈ a.rows, r.length ≤ 140737488351232 ∧ ∀ v ∈ r, in64 v.int
theorem opr_ans : ∀ m, OpR Tryd.prog 42 ansC okAnsR m
  | 0 => opr_zero
  | m + 1 => opr_map (opr_struct Tryd.underlying42 (by kernel_rfl) (fsr_cons (k := 1) (opr_strs m) (by kernel_rfl) (fsr_one (n := 1) (opr_rows m) (by kernel_rfl)) rfl)) (fun y => (⟨y.1, y.2⟩ : Ans)) (fun y => rfl) (fun y h => h)
theorem explainAnswer_ok (a : Ans) (h : okAnsR a) : FF 4 [.agg (ansC a)] = some (.v (.bool true)) :=
  explainAnswer a (Nat.le_trans h.1.1 (by decide)) (Nat.le_trans h.2.1 (by decide)) (fun r hr => Nat.le_trans (h.2.2 r hr).1 (by decide)) (fun r hr => (h.2.2 r hr).2)
end Go.Proofs.YtjdkcedhmfgmoaaDoor
