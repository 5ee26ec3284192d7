/- Values, rows that read as data (the session's own words). -/
import Derived.Test.YtjdkcedhmfgmoaaDoorOpS
import Derived.Test.YtjdkcedhmfgmoaaDoorVc
namespace Go.Proofs.YtjdkcedhmfgmoaaDoor
open Go Go.Eng Go.Proofs Go.RowKit
set_option linter.unusedVariables false
set_option linter.unusedSimpArgs false
def okVal (v : Val) : Prop := I64 v.int ∧ (0 ≤ v.kind ∧ v.kind < 256) ∧ v.text.size ≤ maxLen
theorem opd_val (m : Nat) : OpD Tryd.prog 55 valCells okVal (m + 1) :=
  opd_map (opd_struct Tryd.underlying55 (by kernel_rfl) (fsd_cons (k := 1) (opd_int Tryd.underlying5 m) (by kernel_rfl) (fsd_cons (k := 1) (opd_int Tryd.underlying2 m) (by kernel_rfl) (fsd_one (n := 1) (opd_string Tryd.underlying9 m) (by kernel_rfl)) rfl) rfl)) (fun y => (⟨y.1, y.2.1, y.2.2⟩ : Val)) (fun y => rfl) (fun y h => ⟨wf_i64 h.2.1, wf_u8 h.1, h.2.2⟩)
theorem opd_val' : ∀ m, OpD Tryd.prog 55 valCells okVal m
  | 0 => opd_zero
  | m + 1 => opd_val m
theorem vcs_one (v : Val) : (valCells v).all one = true := (rfl)
theorem opd_vals (m : Nat) : OpD Tryd.prog 49 rowC (fun l => l.length ≤ maxLen ∧ ∀ v ∈ l, okVal v) m :=
  opd_slice (k := 3) Tryd.underlying49 (by kernel_rfl) (by decide) (fun _ => rfl) vcs_one m (opd_val' m)
theorem opd_bools (m : Nat) : OpD Tryd.prog 65 (fun l : List Bool => [.sl (l.map fun b => [.v (.bool b)])]) (fun l => l.length ≤ maxLen ∧ ∀ b ∈ l, True) m :=
  opd_slice (k := 1) Tryd.underlying65 (by kernel_rfl) (by decide) (fun _ => rfl) (fun _ => rfl) m (opd_bool Tryd.underlying4 m)
theorem valCompare_ok (a b c : Val) (ha : okVal a) (hb : okVal b) (hc : okVal c) : FF 6 [.agg (valCells a), .agg (valCells b), .agg (valCells c)] = some (.v (.bool true)) := valCompare a b c ha.2.2 hb.2.2 hc.2.2
theorem valRows_ok (a b : List Val) (d : List Bool) (ha : a.length ≤ maxLen ∧ ∀ v ∈ a, okVal v) (hb : b.length ≤ maxLen ∧ ∀ v ∈ b, okVal v) (hd : d.length ≤ maxLen ∧ ∀ b ∈ d, True) : FF 10 [.sl (a.map valCells), .sl (b.map valCells), .sl (d.map fun b => [.v (.bool b)])] = some (.v (.bool true)) := valRows a b d ha.1 hb.1 hd.1
theorem valChain_ok (a b c : List Val) (d : List Bool) (ha : a.length ≤ maxLen ∧ ∀ v ∈ a, okVal v) (hb : b.length ≤ maxLen ∧ ∀ v ∈ b, okVal v) (hc : c.length ≤ maxLen ∧ ∀ v ∈ c, okVal v) (hd : d.length ≤ maxLen ∧ ∀ b ∈ d, True) : FF 9 [.sl (a.map valCells), .sl (b.map valCells), .sl (c.map valCells), .sl (d.map fun b => [.v (.bool b)])] = some (.v (.bool true)) := valChain a b c d ha.1 hb.1 hc.1 hd.1
end Go.Proofs.YtjdkcedhmfgmoaaDoor
