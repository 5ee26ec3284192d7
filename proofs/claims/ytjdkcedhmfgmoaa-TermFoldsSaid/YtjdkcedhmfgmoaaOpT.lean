/- Terms, rows that read as data (the session's own words). -/
import Derived.Test.YtjdkcedhmfgmoaaOpS
import Derived.Test.YtjdkcedhmfgmoaaTl
namespace Go.Proofs.Ytjdkcedhmfgmoaa
open Go Go.Eng Go.Proofs Go.RowKit
set_option linter.unusedVariables false
set_option linter.unusedSimpArgs false
theorem opd_val (m : Nat) : OpD Try.prog 27 valCells (fun v => I64 v.int) (m + 1) :=
  opd_map (opd_struct Try.underlying27 (by kernel_rfl) (fsd_cons (k := 1) (opd_int Try.underlying5 m) (by kernel_rfl) (fsd_cons (k := 1) (opd_int Try.underlying2 m) (by kernel_rfl) (fsd_one (n := 1) (opd_string Try.underlying9 m) (by kernel_rfl)) rfl) rfl)) (fun y => (⟨y.1, y.2.1, y.2.2⟩ : Val)) (fun y => rfl) (fun y h => wf_i64 h.2.1)
theorem opd_val' : ∀ m, OpD Try.prog 27 valCells (fun v => I64 v.int) m
  | 0 => opd_zero
  | m + 1 => opd_val m
theorem opd_term : ∀ m, OpD Try.prog 29 tcells rngT m
  | 0 => opd_zero
  | m + 1 => by
    have ih := opd_term m
    refine opd_map (opd_struct Try.underlying29 (by kernel_rfl) (fsd_cons (k := 1) (opd_int Try.underlying5 m) (by kernel_rfl) (fsd_cons (k := 1) (opd_string Try.underlying9 m) (by kernel_rfl) (fsd_cons (k := 1) (opd_bool Try.underlying4 m) (by kernel_rfl)
      (fsd_cons (k := 3) (opd_val' m) (by kernel_rfl) (fsd_cons (k := 1) (opd_string Try.underlying9 m) (by kernel_rfl) (fsd_cons (k := 1) (opd_string Try.underlying9 m) (by kernel_rfl) (fsd_cons (k := 1) (opd_int Try.underlying3 m) (by kernel_rfl) (fsd_cons (k := 1) (opd_int Try.underlying3 m) (by kernel_rfl)
      (fsd_one (n := 1) (opd_slice (k := 11) Try.underlying22 (by kernel_rfl) (by decide) tc_len tc_one m ih) (by kernel_rfl)) rfl) rfl) rfl) rfl) rfl) rfl) rfl) rfl))
      (fun y => Term.mk y.1 y.2.1 y.2.2.1 y.2.2.2.1 y.2.2.2.2.1 y.2.2.2.2.2.1 y.2.2.2.2.2.2.1 y.2.2.2.2.2.2.2.1 y.2.2.2.2.2.2.2.2) (fun y => ?_) (fun y h => ?_)
    · rw [tcells_eq]
      rfl
    · obtain ⟨_, _, _, h1, _, _, _, _, h2, h3⟩ := h
      exact ⟨_, h1, h2, h3⟩
theorem opd_terms (m : Nat) : OpD Try.prog 22 (fun l : List Term => [.sl (l.map tcells)]) (fun l => l.length ≤ maxLen ∧ ∀ t ∈ l, rngT t) m :=
  opd_slice (k := 11) Try.underlying22 (by kernel_rfl) (by decide) tc_len tc_one m (opd_term m)
theorem vcs_one (v : Val) : (valCells v).all one = true := (rfl)
theorem opd_vals (m : Nat) : OpD Try.prog 35 rowC (fun l => l.length ≤ maxLen ∧ ∀ v ∈ l, I64 v.int) m :=
  opd_slice (k := 3) Try.underlying35 (by kernel_rfl) (by decide) (fun _ => rfl) vcs_one m (opd_val' m)
theorem opd_rows (m : Nat) : OpD Try.prog 23 (fun l : List (List Val) => [.sl (l.map rowC)]) (fun l => l.length ≤ maxLen ∧ ∀ r ∈ l, r.length ≤ maxLen ∧ ∀ v ∈ r, I64 v.int) m :=
  opd_slice (k := 1) Try.underlying23 (by kernel_rfl) (by decide) (fun _ => rfl) (fun _ => rfl) m (opd_vals m)
theorem termHolds_ok (l : List Term) (rows : List (List Val)) (b : Int) (hl : l.length ≤ maxLen ∧ ∀ t ∈ l, rngT t) (hr : rows.length ≤ maxLen ∧ ∀ r ∈ rows, r.length ≤ maxLen ∧ ∀ v ∈ r, I64 v.int) (hb : (Lit.int .u8 b).wf = true) :
    FF 3 [.sl (l.map tcells), .sl (rows.map rowC), .v (.int .u8 b)] = some (.v (.bool true)) := termHolds3 l rows b hl.2 hl.1 hr.2 hr.1 (wf_u8 hb)
theorem termIs_ok (t : Term) (rows : List (List Val)) (tot : List Val) (ht : rngT t) (hr : rows.length ≤ maxLen ∧ ∀ r ∈ rows, r.length ≤ maxLen ∧ ∀ v ∈ r, I64 v.int) (hv : tot.length ≤ maxLen ∧ ∀ v ∈ tot, I64 v.int) :
    FF 4 [.agg (tcells t), .sl (rows.map rowC), .sl (tot.map valCells)] = some (.v (.bool true)) := termIs4 t rows tot ht hr.2 hr.1 hv.2 hv.1
end Go.Proofs.Ytjdkcedhmfgmoaa
