/- Books, blocks, plans that read as data (the session's own words; printed by xo.py). -/
import Derived.Test.YtjdkcedhmfgmoaaDoorNXj
import Derived.Test.YtjdkcedhmfgmoaaDoorNOpu
namespace Go.Proofs.YtjdkcedhmfgmoaaDoor
open Go Go.Eng Go.Proofs Go.RowKit
set_option linter.unusedVariables false
set_option linter.unusedSimpArgs false
theorem in64_of {n : Int} (h : (Lit.int .i64 n).wf = true) : in64 n := by
  have := wf_i64 h
  exact ⟨this.1, by have := this.2; omega⟩
theorem opu_int1 (m : Nat) : OpU Tryd.prog 3 intC in64 m := opu_map (opu_int Tryd.underlying3 m) (fun y => y) (fun y => rfl) (fun y h => in64_of h)
theorem opu_ints (m : Nat) : OpU Tryd.prog 26 (fun l : List Int => [.sl (l.map intC)]) (fun l => l.length ≤ 1048576 ∧ ∀ x ∈ l, in64 x) m :=
  opu_slice (k := 1) Tryd.underlying26 (by kernel_rfl) (by decide) (fun _ => rfl) (fun _ => rfl) m (opu_int1 m)
theorem opu_col : ∀ m, OpU Tryd.prog 74 colC (fun c => c.name.size ≤ 1048576) m
  | 0 => opu_zero
  | m + 1 => opu_map (opu_struct Tryd.underlying74 (by kernel_rfl) (fsu_cons (k := 1) (opu_string Tryd.underlying9 m) (by kernel_rfl) (fsu_cons (k := 1) (opu_int Tryd.underlying5 m) (by kernel_rfl) (fsu_cons (k := 1) (opu_int Tryd.underlying3 m) (by kernel_rfl) (fsu_one (n := 1) (opu_int Tryd.underlying3 m) (by kernel_rfl)) rfl) rfl) rfl)) (fun y => (⟨y.1, y.2.1, y.2.2.1, y.2.2.2⟩ : Colm)) (fun y => rfl) (fun y h => h.1)
theorem opu_cols (m : Nat) : OpU Tryd.prog 69 (fun l : List Colm => [.sl (l.map colC)]) (fun l => l.length ≤ 1048576 ∧ ∀ x ∈ l, (fun c => c.name.size ≤ 1048576) x) m :=
  opu_slice (k := 4) Tryd.underlying69 (by kernel_rfl) (by decide) (fun _ => rfl) (fun _ => rfl) m (opu_col m)
def okTbl (t : Tbl) : Prop := t.name.size ≤ 1048576 ∧ t.cols.length ≤ 1048576 ∧ ∀ c ∈ t.cols, c.name.size ≤ 1048576
def okIdx (t : Idx) : Prop := t.name.size ≤ 1048576 ∧ t.cols.length ≤ 1048576 ∧ t.distinct.length ≤ 1048576
theorem opu_tbl : ∀ m, OpU Tryd.prog 72 tblC okTbl m
  | 0 => opu_zero
  | m + 1 => opu_map (opu_struct Tryd.underlying72 (by kernel_rfl) (fsu_cons (k := 1) (opu_string Tryd.underlying9 m) (by kernel_rfl) (fsu_cons (k := 1) (opu_cols m) (by kernel_rfl) (fsu_cons (k := 1) (opu_int Tryd.underlying70 m) (by kernel_rfl) (fsu_cons (k := 1) (opu_int Tryd.underlying3 m) (by kernel_rfl) (fsu_one (n := 1) (opu_int Tryd.underlying3 m) (by kernel_rfl)) rfl) rfl) rfl) rfl)) (fun y => (⟨y.1, y.2.1, y.2.2.1, y.2.2.2.1, y.2.2.2.2⟩ : Tbl)) (fun y => rfl) (fun y h => ⟨h.1, h.2.1.1, h.2.1.2⟩)
theorem opu_tbls (m : Nat) : OpU Tryd.prog 22 (fun l : List Tbl => [.sl (l.map tblC)]) (fun l => l.length ≤ 1048576 ∧ ∀ x ∈ l, okTbl x) m :=
  opu_slice (k := 5) Tryd.underlying22 (by kernel_rfl) (by decide) (fun _ => rfl) (fun _ => rfl) m (opu_tbl m)
theorem opu_idx : ∀ m, OpU Tryd.prog 76 idxC okIdx m
  | 0 => opu_zero
  | m + 1 => opu_map (opu_struct Tryd.underlying76 (by kernel_rfl) (fsu_cons (k := 1) (opu_string Tryd.underlying9 m) (by kernel_rfl) (fsu_cons (k := 1) (opu_int Tryd.underlying3 m) (by kernel_rfl) (fsu_cons (k := 1) (opu_ints m) (by kernel_rfl) (fsu_cons (k := 1) (opu_int Tryd.underlying70 m) (by kernel_rfl) (fsu_cons (k := 1) (opu_int Tryd.underlying3 m) (by kernel_rfl) (fsu_cons (k := 1) (opu_int Tryd.underlying3 m) (by kernel_rfl) (fsu_one (n := 1) (opu_ints m) (by kernel_rfl)) rfl) rfl) rfl) rfl) rfl) rfl)) (fun y => (⟨y.1, y.2.1, y.2.2.1, y.2.2.2.1, y.2.2.2.2.1, y.2.2.2.2.2.1, y.2.2.2.2.2.2⟩ : Idx)) (fun y => rfl) (fun y h => ⟨h.1, h.2.2.1.1, h.2.2.2.2.2.2.1⟩)
theorem opu_idxs (m : Nat) : OpU Tryd.prog 23 (fun l : List Idx => [.sl (l.map idxC)]) (fun l => l.length ≤ 1048576 ∧ ∀ x ∈ l, okIdx x) m :=
  opu_slice (k := 7) Tryd.underlying23 (by kernel_rfl) (by decide) (fun _ => rfl) (fun _ => rfl) m (opu_idx m)
theorem opu_bok : ∀ m, OpU Tryd.prog 25 bokC (fun b => okBok b ∧ okCols b) m
  | 0 => opu_zero
  | m + 1 => opu_map (opu_struct Tryd.underlying25 (by kernel_rfl) (fsu_cons (k := 1) (opu_tbls m) (by kernel_rfl) (fsu_one (n := 1) (opu_idxs m) (by kernel_rfl)) rfl)) (fun y => (⟨y.1, y.2⟩ : Bok)) (fun y => rfl) (fun y h => ⟨⟨h.2.1, h.1.1, fun x hx => (h.2.2 x hx).1, fun x hx => (h.1.2 x hx).1⟩, fun x hx => (h.1.2 x hx).2, fun x hx => (h.2.2 x hx).2⟩)
theorem opu_rng : ∀ m, OpU Tryd.prog 182 rngC (fun _ => True) m
  | 0 => opu_zero
  | m + 1 => opu_map (opu_struct Tryd.underlying182 (by kernel_rfl) (fsu_cons (k := 1) (opu_string Tryd.underlying9 m) (by kernel_rfl) (fsu_cons (k := 1) (opu_string Tryd.underlying9 m) (by kernel_rfl) (fsu_one (n := 1) (opu_bool Tryd.underlying4 m) (by kernel_rfl)) rfl) rfl)) (fun y => (⟨y.1, y.2.1, y.2.2⟩ : Rng)) (fun y => rfl) (fun y h => trivial)
theorem opu_rngs (m : Nat) : OpU Tryd.prog 77 (fun l : List Rng => [.sl (l.map rngC)]) (fun l => l.length ≤ 1048576 ∧ ∀ x ∈ l, (fun _ => True) x) m :=
  opu_slice (k := 3) Tryd.underlying77 (by kernel_rfl) (by decide) (fun _ => rfl) (fun _ => rfl) m (opu_rng m)
theorem pl {n : Nat} (h : n ≤ 1048576) : n ≤ 140737488355328 := by omega
theorem opu_pth : ∀ m, OpU Tryd.prog 79 pthC (fun p => okPth p ∧ p.also.length ≤ 140737488355328) m
  | 0 => opu_zero
  | m + 1 => opu_map (opu_struct Tryd.underlying79 (by kernel_rfl) (fsu_cons (k := 1) (opu_int Tryd.underlying5 m) (by kernel_rfl) (fsu_cons (k := 1) (opu_int Tryd.underlying3 m) (by kernel_rfl) (fsu_cons (k := 1) (opu_rngs m) (by kernel_rfl) (fsu_cons (k := 1) (opu_ints m) (by kernel_rfl) (fsu_cons (k := 1) (opu_int Tryd.underlying3 m) (by kernel_rfl) (fsu_cons (k := 1) (opu_rngs m) (by kernel_rfl) (fsu_one (n := 1) (opu_ints m) (by kernel_rfl)) rfl) rfl) rfl) rfl) rfl) rfl)) (fun y => (⟨y.1, y.2.1, y.2.2.1, y.2.2.2.1, y.2.2.2.2.1, y.2.2.2.2.2.1, y.2.2.2.2.2.2⟩ : Pth)) (fun y => rfl) (fun y h => ⟨⟨in64_of h.2.1, in64_of h.2.2.2.2.1, pl h.2.2.2.1.1, pl h.2.2.2.2.2.2.1, pl h.2.2.1.1⟩, pl h.2.2.2.2.2.1.1⟩)
theorem opu_stp : ∀ m, OpU Tryd.prog 81 stpC (fun s => okStp s ∧ 0 ≤ s.method) m
  | 0 => opu_zero
  | m + 1 => opu_map (opu_struct Tryd.underlying81 (by kernel_rfl) (fsu_cons (k := 1) (opu_int Tryd.underlying3 m) (by kernel_rfl) (fsu_cons (k := 1) (opu_int Tryd.underlying5 m) (by kernel_rfl) (fsu_cons (k := 7) (opu_pth m) (by kernel_rfl) (fsu_cons (k := 1) (opu_int Tryd.underlying3 m) (by kernel_rfl) (fsu_one (n := 1) (opu_int Tryd.underlying3 m) (by kernel_rfl)) rfl) rfl) rfl) rfl)) (fun y => (⟨y.1, y.2.1, y.2.2.1, y.2.2.2.1, y.2.2.2.2⟩ : Stp)) (fun y => rfl) (fun y h => ⟨⟨in64_of h.1, in64_of h.2.2.2.1, in64_of h.2.2.2.2, h.2.2.1.1, h.2.2.1.2⟩, (wf_u8 h.2.1).1⟩)
theorem opu_stps (m : Nat) : OpU Tryd.prog 33 (fun l : List Stp => [.sl (l.map stpC)]) (fun l => l.length ≤ 1048576 ∧ ∀ x ∈ l, (fun s => okStp s ∧ 0 ≤ s.method) x) m :=
  opu_slice (k := 11) Tryd.underlying33 (by kernel_rfl) (by decide) (fun _ => rfl) (fun _ => rfl) m (opu_stp m)
structure Pln where
  steps : List Stp
  sort : Bool
def plnC (p : Pln) : List D := [.sl (p.steps.map stpC), .v (.bool p.sort)]
theorem opu_pln : ∀ m, OpU Tryd.prog 35 plnC (fun p => p.steps.length ≤ 1048576 ∧ ∀ s ∈ p.steps, okStp s ∧ 0 ≤ s.method) m
  | 0 => opu_zero
  | m + 1 => opu_map (opu_struct Tryd.underlying35 (by kernel_rfl) (fsu_cons (k := 1) (opu_stps m) (by kernel_rfl) (fsu_one (n := 1) (opu_bool Tryd.underlying4 m) (by kernel_rfl)) rfl)) (fun y => (⟨y.1, y.2⟩ : Pln)) (fun y => rfl) (fun y h => h.1)
/-- cells, so many, of any data -/
def RawD (k : Nat) := { x : List D // x.length = k ∧ x.all one = true }
def rawC {k : Nat} (x : RawD k) : List D := x.1
theorem opu_raw {P : Program} {t : TypeId} {m k : Nat} {α : Type} {enc : α → List D} {G : α → Prop} (h : OpU P t enc G m) (hl : ∀ y, (enc y).length = k) (h1 : ∀ y, (enc y).all one = true) : OpU P t (fun x : RawD k => rawC x) (fun _ => True) m :=
  opu_map h (fun y => (⟨enc y, hl y, h1 y⟩ : RawD k)) (fun y => rfl) (fun y _ => trivial)
theorem opu_rawval : ∀ m, OpU Tryd.prog 55 (fun x : RawD 3 => rawC x) (fun _ => True) m
  | 0 => opu_zero
  | m + 1 => opu_raw (opu_struct Tryd.underlying55 (by kernel_rfl) (fsu_cons (k := 1) (opu_int Tryd.underlying5 m) (by kernel_rfl) (fsu_cons (k := 1) (opu_int Tryd.underlying2 m) (by kernel_rfl) (fsu_one (n := 1) (opu_string Tryd.underlying9 m) (by kernel_rfl)) rfl) rfl)) (fun y => rfl) (fun y => rfl)
theorem opu_term : ∀ m, OpU Tryd.prog 178 (fun x : RawD 11 => rawC x) (fun _ => True) m
  | 0 => opu_zero
  | m + 1 => by
    have ih := opu_term m
    have hs := opu_slice (k := 11) Tryd.underlying27 (by kernel_rfl) (by decide) (fun y => y.2.1) (fun y => y.2.2) m ih
    refine opu_raw (opu_struct Tryd.underlying178 (by kernel_rfl) (fsu_cons (k := 1) (opu_int Tryd.underlying5 m) (by kernel_rfl) (fsu_cons (k := 1) (opu_string Tryd.underlying9 m) (by kernel_rfl) (fsu_cons (k := 1) (opu_bool Tryd.underlying4 m) (by kernel_rfl) (fsu_cons (k := 3) (opu_rawval m) (by kernel_rfl) (fsu_cons (k := 1) (opu_string Tryd.underlying9 m) (by kernel_rfl) (fsu_cons (k := 1) (opu_string Tryd.underlying9 m) (by kernel_rfl) (fsu_cons (k := 1) (opu_int Tryd.underlying3 m) (by kernel_rfl) (fsu_cons (k := 1) (opu_int Tryd.underlying3 m) (by kernel_rfl) (fsu_one (n := 1) (hs) (by kernel_rfl)) rfl) rfl) rfl) rfl) rfl) rfl) rfl) rfl)) (fun y => ?_) (fun y => ?_)
    · obtain ⟨y1, y2, y3, y4, y5, y6, y7, y8, y9⟩ := y
      simp [rawC, y4.2.1]
    · obtain ⟨y1, y2, y3, y4, y5, y6, y7, y8, y9⟩ := y
      have := y4.2.2
      simp only [List.all_append, rawC, this, Bool.and_true, Bool.true_and]
      rfl
theorem opu_key : ∀ m, OpU Tryd.prog 180 (fun x : RawD 3 => rawC x) (fun _ => True) m
  | 0 => opu_zero
  | m + 1 => opu_raw (opu_struct Tryd.underlying180 (by kernel_rfl) (fsu_cons (k := 1) (opu_string Tryd.underlying9 m) (by kernel_rfl) (fsu_cons (k := 1) (opu_int Tryd.underlying3 m) (by kernel_rfl) (fsu_one (n := 1) (opu_bool Tryd.underlying4 m) (by kernel_rfl)) rfl) rfl)) (fun y => rfl) (fun y => rfl)
theorem opu_str (m : Nat) : OpU Tryd.prog 9 (fun x : RawD 1 => rawC x) (fun _ => True) m := opu_raw (opu_string Tryd.underlying9 m) (fun y => rfl) (fun y => rfl)
theorem opu_byt (m : Nat) : OpU Tryd.prog 5 (fun x : RawD 1 => rawC x) (fun _ => True) m := opu_raw (opu_int Tryd.underlying5 m) (fun y => rfl) (fun y => rfl)
theorem opu_rows {t e : TypeId} {k : Nat} (h : Tryd.prog.underlying t = some (.slice e)) (hk : Tryd.prog.cellsOf e = k) (h0 : 0 < k) (m : Nat) (ho : OpU Tryd.prog e (fun x : RawD k => rawC x) (fun _ => True) m) :
    OpU Tryd.prog t (fun l : List (List D) => [.sl l]) (fun l => l.length ≤ 1048576) m :=
  opu_map (opu_slice h hk h0 (fun y => y.2.1) (fun y => y.2.2) m ho) (fun l => l.map rawC) (fun l => rfl) (fun l hl => by rw [List.length_map]; exact hl.1)
theorem opu_blk : ∀ m, OpU Tryd.prog 32 blkC (fun k => k.tables.length ≤ 140737488355328 ∧ ∀ x ∈ k.tables, in64 x) m
  | 0 => opu_zero
  | m + 1 => opu_map (opu_struct Tryd.underlying32 (by kernel_rfl) (fsu_cons (k := 1) (opu_bool Tryd.underlying4 m) (by kernel_rfl) (fsu_cons (k := 1) (opu_ints m) (by kernel_rfl) (fsu_cons (k := 1) (opu_rows (k := 11) Tryd.underlying27 (by kernel_rfl) (by decide) m (opu_term m)) (by kernel_rfl) (fsu_cons (k := 1) (opu_rows (k := 1) Tryd.underlying28 (by kernel_rfl) (by decide) m (opu_str m)) (by kernel_rfl) (fsu_cons (k := 1) (opu_rows (k := 1) Tryd.underlying29 (by kernel_rfl) (by decide) m (opu_byt m)) (by kernel_rfl) (fsu_cons (k := 1) (opu_rows (k := 11) Tryd.underlying27 (by kernel_rfl) (by decide) m (opu_term m)) (by kernel_rfl) (fsu_cons (k := 1) (opu_bool Tryd.underlying4 m) (by kernel_rfl) (fsu_cons (k := 1) (opu_rows (k := 11) Tryd.underlying27 (by kernel_rfl) (by decide) m (opu_term m)) (by kernel_rfl) (fsu_cons (k := 1) (opu_rows (k := 11) Tryd.underlying27 (by kernel_rfl) (by decide) m (opu_term m)) (by kernel_rfl) (fsu_cons (k := 1) (opu_rows (k := 3) Tryd.underlying30 (by kernel_rfl) (by decide) m (opu_key m)) (by kernel_rfl) (fsu_one (n := 1) (opu_int Tryd.underlying3 m) (by kernel_rfl)) rfl) rfl) rfl) rfl) rfl) rfl) rfl) rfl) rfl) rfl)) (fun y => (⟨y.1, y.2.1, y.2.2.1, y.2.2.2.1, y.2.2.2.2.1, y.2.2.2.2.2.1, y.2.2.2.2.2.2.1, y.2.2.2.2.2.2.2.1, y.2.2.2.2.2.2.2.2.1, y.2.2.2.2.2.2.2.2.2.1, y.2.2.2.2.2.2.2.2.2.2⟩ : Blk)) (fun y => rfl) (fun y h => ⟨pl h.2.1.1, h.2.1.2⟩)
theorem explainPlan_ok (b : Bok) (k : Blk) (p : Pln) (hb : okBok b ∧ okCols b) (hk : k.tables.length ≤ 140737488355328 ∧ ∀ x ∈ k.tables, in64 x) (hp : p.steps.length ≤ 1048576 ∧ ∀ s ∈ p.steps, okStp s ∧ 0 ≤ s.method) :
    FF 3 [.agg (bokC b), .agg (blkC k), .agg (plnC p)] = some (.v (.bool true)) := explainPlan b k p.steps p.sort hb.1 hb.2 hk.1 hk.2 hp.2 (pl hp.1)
end Go.Proofs.YtjdkcedhmfgmoaaDoor
