/- The program's table by values (the session's own words). -/
import Derived.Test.YtcdeidljcmlfdaaDoorEnds
import Derived.Test.YtcdeidljcmlfdaaDoorStr
namespace Go.Proofs.YtcdeidljcmlfdaaDoor
open Go Go.Eng Go.Proofs
set_option linter.unusedVariables false
set_option linter.unusedSimpArgs false
/-- what is to stay as it is from there on: at a region, at a function's end -/
def hints (f : FuncId) (n : Nat) : List Tmp := if n = hend then ends f else if n = hmvr then rmv f else if n % 2 = 1 ∧ 1000003 ≤ n then hvars f ((n - 1000003) / 2) else []
theorem hints_reg (f : FuncId) (id : Nat) : hints f (hreg id) = [] := by
  unfold hints hreg hend hmvr
  rw [if_neg (by omega), if_neg (by omega), if_neg (by omega)]
theorem hints_var (f : FuncId) (id : Nat) : hints f (hvar id) = hvars f id := by
  unfold hints hvar hend hmvr
  rw [if_neg (by omega), if_neg (by omega), if_pos (by omega), show (2 * id + 1000003 - 1000003) / 2 = id by omega]
theorem hints_end (f : FuncId) : hints f hend = ends f := by simp [hints]
theorem hints_mv (f : FuncId) : hints f hmvr = rmv f := by simp [hints, hmvr, hend]
theorem hints_blk {f : FuncId} {b : Nat} (h : b < 900000) : hints f b = [] := by
  unfold hints hend hmvr
  rw [if_neg (by omega), if_neg (by omega), if_neg (by omega)]
attribute [go_sem] hints_reg hints_var hints_end hints_mv hints_blk ends hvars rmv
/-- a function, its arguments, the variables handed in: what comes back, the variables as they are then -/
noncomputable def FG : FTy := Fs Tryd.prog hints prims
/-- where no variable is handed in -/
noncomputable abbrev FF (f : FuncId) (ds : List D) : Option D := F0 FG f ds
theorem FG_val {f : FuncId} {fn : Func} {c : Code} {ds : List D} {os : List (List D)} {r : D × List (List D)} (hf : Tryd.prog.funcs[f]? = some fn) (hc : fn.body = some c)
    (hn : decide (ds.length ≤ fn.ntmps) = true) (h : dwp Tryd.prog FG (hints f) c 0 (S fn.ntmps (argsf ds) (argsg os)) (endQ Tryd.prog (hints f hend) (hints f hmvr) fn.results.toList os.length (· = r))) (hp : prims f ds os = none := by rfl) : FG f ds os = some r :=
  Fs_val hp hf hc (of_decide_eq_true hn) h
theorem FG_ex {f : FuncId} {fn : Func} {c : Code} {ds : List D} {os : List (List D)} {R : D × List (List D) → Prop} (hf : Tryd.prog.funcs[f]? = some fn) (hc : fn.body = some c)
    (hn : decide (ds.length ≤ fn.ntmps) = true) (h : dwp Tryd.prog FG (hints f) c 0 (S fn.ntmps (argsf ds) (argsg os)) (endQ Tryd.prog (hints f hend) (hints f hmvr) fn.results.toList os.length R)) (hp : prims f ds os = none := by rfl) : ∃ r, FG f ds os = some r ∧ R r :=
  Fs_ex hp hf hc (of_decide_eq_true hn) h
theorem FF_prim {f : FuncId} {ds : List D} {r : D} (h : prims f ds [] = some (r, [])) : FF f ds = some r := by
  have : FG f ds [] = some (r, []) := Fs_prim _ _ _ h
  simp only [FF, F0, this, Option.bind_some]; rfl
theorem FF_of {f : FuncId} {ds : List D} {r : D} (h : FG f ds [] = some (r, [])) : FF f ds = some r := by
  simp only [FF, F0, h, Option.bind_some]; rfl
theorem FF_val {f : FuncId} {fn : Func} {c : Code} {ds : List D} {r : D} (hf : Tryd.prog.funcs[f]? = some fn) (hc : fn.body = some c)
    (hn : decide (ds.length ≤ fn.ntmps) = true) (h : dwp Tryd.prog FG (hints f) c 0 (S fn.ntmps (argsf ds) (fun _ => none)) (endQ Tryd.prog (hints f hend) (hints f hmvr) fn.results.toList 0 (· = (r, [])))) (hp : prims f ds [] = none := by rfl) : FF f ds = some r :=
  FF_of (FG_val hf hc hn (by rw [argsg_nil]; exact h) hp)
theorem FF_ex {f : FuncId} {fn : Func} {c : Code} {ds : List D} {R : D → Prop} (hf : Tryd.prog.funcs[f]? = some fn) (hc : fn.body = some c)
    (hn : decide (ds.length ≤ fn.ntmps) = true) (h : dwp Tryd.prog FG (hints f) c 0 (S fn.ntmps (argsf ds) (fun _ => none)) (endQ Tryd.prog (hints f hend) (hints f hmvr) fn.results.toList 0 (fun p => R p.1 ∧ p.2 = []))) (hp : prims f ds [] = none := by rfl) : ∃ r, FF f ds = some r ∧ R r := by
  obtain ⟨p, hp, h1, h2⟩ := FG_ex (os := []) (R := fun p => R p.1 ∧ p.2 = []) hf hc hn (by rw [argsg_nil]; exact h) hp
  obtain ⟨r, os⟩ := p
  simp only at h2
  subst h2
  exact ⟨r, FF_of hp, h1⟩
/-- closed data -/
theorem FF_run {f : FuncId} {ds : List D} {r : D} (n : Nat) (h : denN Tryd.prog hints prims n f ds [] = some (r, [])) : FF f ds = some r :=
  FF_of ((Fs_iff _ _ _).2 ⟨n, h⟩)
/-! pieces of strings -/
theorem sls2S (s : ByteArray) (k k' : IntKind) (i j : Int) (h0 : 0 ≤ i) (h1 : i ≤ j) (h2 : j ≤ (s.size : Int)) : sls Tryd.prog 9 s (some (.int k i)) (some (.int k' j)) = some (.string (cut s i.toNat j.toNat)) := sls2 (by kernel_rfl) s k k' i j h0 h1 h2
theorem sls_lS (s : ByteArray) (k : IntKind) (i : Int) (h0 : 0 ≤ i) (h1 : i ≤ (s.size : Int)) : sls Tryd.prog 9 s (some (.int k i)) none = some (.string (cut s i.toNat s.size)) := sls_l (by kernel_rfl) s k i h0 h1
theorem sls_hS (s : ByteArray) (k : IntKind) (j : Int) (h0 : 0 ≤ j) (h1 : j ≤ (s.size : Int)) : sls Tryd.prog 9 s none (some (.int k j)) = some (.string (cut s 0 j.toNat)) := sls_h (by kernel_rfl) s k j h0 h1
end Go.Proofs.YtcdeidljcmlfdaaDoor
