/- Books, paths that read as data; the statement (the session's own words; printed by mkph.py). -/
import Derived.Test.YtenhflbjipeopaaGreatDoorPPg
import Derived.Test.YtenhflbjipeopaaGreatDoorPOpr
namespace Go.Proofs.YtenhflbjipeopaaGreatDoor
open Go Go.Eng Go.Proofs Go.RowKit
set_option linter.unusedVariables false
set_option linter.unusedSimpArgs false
theorem in64_of {n : Int} (h : (Lit.int .i64 n).wf = true) : in64 n := by
  have := wf_i64 h
  exact ⟨this.1, by have := this.2; omega⟩
theorem pl {n : Nat} (h : n ≤ 140737488351232) : n ≤ 140737488355328 := Nat.le_trans h (by decide)
theorem opr_int1 (m : Nat) : OpR Tryz.prog 3 intC (fun _ => True) m := opr_map (opr_int Tryz.underlying3 m) (fun y => y) (fun y => rfl) (fun y h => trivial)
theorem opr_ints (m : Nat) : OpR Tryz.prog 35 (fun l : List Int => [.sl (l.map intC)]) (fun l => l.length ≤ 140737488351232 ∧ ∀ x ∈ l, (fun _ => True) x) m :=
  opr_slice (k := 1) Tryz.underlying35 (by kernel_rfl) (by decide) (of_decide_eq_true (by kernel_rfl)) (fun _ => rfl) (fun _ => rfl) m (opr_int1 m)
theorem opr_col : ∀ m, OpR Tryz.prog 81 colC (fun c => c.name.size ≤ 140737488355328) m
  | 0 => opr_zero
  | m + 1 => opr_map (opr_struct Tryz.underlying81 (by kernel_rfl) (fsr_cons (k := 1) (opr_string Tryz.underlying9 m) (by kernel_rfl) (fsr_cons (k := 1) (opr_int Tryz.underlying5 m) (by kernel_rfl) (fsr_cons (k := 1) (opr_int Tryz.underlying3 m) (by kernel_rfl) (fsr_one (n := 1) (opr_int Tryz.underlying3 m) (by kernel_rfl)) rfl) rfl) rfl)) (fun y => (⟨y.1, y.2.1, y.2.2.1, y.2.2.2⟩ : Colm)) (fun y => rfl) (fun y h => pl h.1)
theorem opr_cols (m : Nat) : OpR Tryz.prog 77 (fun l : List Colm => [.sl (l.map colC)]) (fun l => l.length ≤ 140737488351232 ∧ ∀ x ∈ l, (fun c => c.name.size ≤ 140737488355328) x) m :=
  opr_slice (k := 4) Tryz.underlying77 (by kernel_rfl) (by decide) (of_decide_eq_true (by kernel_rfl)) (fun _ => rfl) (fun _ => rfl) m (opr_col m)
def okTbl (t : Tbl) : Prop := t.name.size ≤ 140737488355328 ∧ t.cols.length ≤ 140737488355328 ∧ ∀ c ∈ t.cols, c.name.size ≤ 140737488355328
def okIdx (t : Idx) : Prop := t.name.size ≤ 140737488355328 ∧ t.cols.length ≤ 140737488355328 ∧ t.distinct.length ≤ 140737488355328
theorem opr_tbl : ∀ m, OpR Tryz.prog 79 tblC okTbl m
  | 0 => opr_zero
  | m + 1 => opr_map (opr_struct Tryz.underlying79 (by kernel_rfl) (fsr_cons (k := 1) (opr_string Tryz.underlying9 m) (by kernel_rfl) (fsr_cons (k := 1) (opr_cols m) (by kernel_rfl) (fsr_cons (k := 1) (opr_int Tryz.underlying40 m) (by kernel_rfl) (fsr_cons (k := 1) (opr_int Tryz.underlying3 m) (by kernel_rfl) (fsr_one (n := 1) (opr_int Tryz.underlying3 m) (by kernel_rfl)) rfl) rfl) rfl) rfl)) (fun y => (⟨y.1, y.2.1, y.2.2.1, y.2.2.2.1, y.2.2.2.2⟩ : Tbl)) (fun y => rfl) (fun y h => ⟨pl h.1, pl h.2.1.1, h.2.1.2⟩)
theorem opr_tbls (m : Nat) : OpR Tryz.prog 30 (fun l : List Tbl => [.sl (l.map tblC)]) (fun l => l.length ≤ 140737488351232 ∧ ∀ x ∈ l, okTbl x) m :=
  opr_slice (k := 5) Tryz.underlying30 (by kernel_rfl) (by decide) (of_decide_eq_true (by kernel_rfl)) (fun _ => rfl) (fun _ => rfl) m (opr_tbl m)
theorem opr_idx : ∀ m, OpR Tryz.prog 42 idxC okIdx m
  | 0 => opr_zero
  | m + 1 => opr_map (opr_struct Tryz.underlying42 (by kernel_rfl) (fsr_cons (k := 1) (opr_string Tryz.underlying9 m) (by kernel_rfl) (fsr_cons (k := 1) (opr_int Tryz.underlying3 m) (by kernel_rfl) (fsr_cons (k := 1) (opr_ints m) (by kernel_rfl) (fsr_cons (k := 1) (opr_int Tryz.underlying40 m) (by kernel_rfl) (fsr_cons (k := 1) (opr_int Tryz.underlying3 m) (by kernel_rfl) (fsr_cons (k := 1) (opr_int Tryz.underlying3 m) (by kernel_rfl) (fsr_one (n := 1) (opr_ints m) (by kernel_rfl)) rfl) rfl) rfl) rfl) rfl) rfl)) (fun y => (⟨y.1, y.2.1, y.2.2.1, y.2.2.2.1, y.2.2.2.2.1, y.2.2.2.2.2.1, y.2.2.2.2.2.2⟩ : Idx)) (fun y => rfl) (fun y h => ⟨pl h.1, pl h.2.2.1.1, pl h.2.2.2.2.2.2.1⟩)
theorem opr_idxs (m : Nat) : OpR Tryz.prog 31 (fun l : List Idx => [.sl (l.map idxC)]) (fun l => l.length ≤ 140737488351232 ∧ ∀ x ∈ l, okIdx x) m :=
  opr_slice (k := 7) Tryz.underlying31 (by kernel_rfl) (by decide) (of_decide_eq_true (by kernel_rfl)) (fun _ => rfl) (fun _ => rfl) m (opr_idx m)
theorem opr_bok : ∀ m, OpR Tryz.prog 33 bokC (fun b => okBok b ∧ okCols b) m
  | 0 => opr_zero
  | m + 1 => opr_map (opr_struct Tryz.underlying33 (by kernel_rfl) (fsr_cons (k := 1) (opr_tbls m) (by kernel_rfl) (fsr_one (n := 1) (opr_idxs m) (by kernel_rfl)) rfl)) (fun y => (⟨y.1, y.2⟩ : Bok)) (fun y => rfl) (fun y h => ⟨⟨pl h.2.1, pl h.1.1, fun x hx => (h.2.2 x hx).1, fun x hx => (h.1.2 x hx).1⟩, fun x hx => (h.1.2 x hx).2, fun x hx => (h.2.2 x hx).2⟩)
theorem opr_rng : ∀ m, OpR Tryz.prog 85 rngC (fun _ => True) m
  | 0 => opr_zero
  | m + 1 => opr_map (opr_struct Tryz.underlying85 (by kernel_rfl) (fsr_cons (k := 1) (opr_string Tryz.underlying9 m) (by kernel_rfl) (fsr_cons (k := 1) (opr_string Tryz.underlying9 m) (by kernel_rfl) (fsr_one (n := 1) (opr_bool Tryz.underlying4 m) (by kernel_rfl)) rfl) rfl)) (fun y => (⟨y.1, y.2.1, y.2.2⟩ : Rng)) (fun y => rfl) (fun y h => trivial)
theorem opr_rngs (m : Nat) : OpR Tryz.prog 34 (fun l : List Rng => [.sl (l.map rngC)]) (fun l => l.length ≤ 140737488351232 ∧ ∀ x ∈ l, (fun _ => True) x) m :=
  opr_slice (k := 3) Tryz.underlying34 (by kernel_rfl) (by decide) (of_decide_eq_true (by kernel_rfl)) (fun _ => rfl) (fun _ => rfl) m (opr_rng m)
theorem opr_pth : ∀ m, OpR Tryz.prog 37 pthC (fun p => smallP p ∧ in64 p.index) m
  | 0 => opr_zero
  | m + 1 => opr_map (opr_struct Tryz.underlying37 (by kernel_rfl) (fsr_cons (k := 1) (opr_int Tryz.underlying5 m) (by kernel_rfl) (fsr_cons (k := 1) (opr_int Tryz.underlying3 m) (by kernel_rfl) (fsr_cons (k := 1) (opr_rngs m) (by kernel_rfl) (fsr_cons (k := 1) (opr_ints m) (by kernel_rfl) (fsr_cons (k := 1) (opr_int Tryz.underlying3 m) (by kernel_rfl) (fsr_cons (k := 1) (opr_rngs m) (by kernel_rfl) (fsr_one (n := 1) (opr_ints m) (by kernel_rfl)) rfl) rfl) rfl) rfl) rfl) rfl)) (fun y => (⟨y.1, y.2.1, y.2.2.1, y.2.2.2.1, y.2.2.2.2.1, y.2.2.2.2.2.1, y.2.2.2.2.2.2⟩ : Pth)) (fun y => rfl) (fun y h => ⟨⟨pl h.2.2.1.1, pl h.2.2.2.2.2.1.1, pl h.2.2.2.1.1, pl h.2.2.2.2.2.2.1⟩, in64_of h.2.1⟩)
theorem pathsSame_ok (b : Bok) (p q : Pth) (hb : okBok b ∧ okCols b) (hp : smallP p ∧ in64 p.index) (hq : smallP q ∧ in64 q.index) : FF 4 [.agg (bokC b), .agg (pthC p), .agg (pthC q)] = some (.v (.bool true)) := pathsSame b p q hb.1 hb.2 hp.1 hq.1 hp.2
end Go.Proofs.YtenhflbjipeopaaGreatDoor
