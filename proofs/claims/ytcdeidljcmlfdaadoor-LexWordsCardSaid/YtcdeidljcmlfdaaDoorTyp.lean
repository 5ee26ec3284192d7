/- The program's data as typed values, and the cells that stand for them (the session's own words). -/
import Derived.Test.YtcdeidljcmlfdaaDoorTab
namespace Go.Proofs.YtcdeidljcmlfdaaDoor
open Go Go.Eng Go.Proofs
set_option linter.unusedVariables false
set_option linter.unusedSimpArgs false

structure Val where
  kind : Int
  int : Int
  text : ByteArray
  deriving Inhabited
inductive Term where
  | mk (kind : Int) (op : ByteArray) (nt : Bool) (v : Val) (of nm : ByteArray) (tb co : Int) (args : List Term)
def Term.kind : Term → Int | .mk k _ _ _ _ _ _ _ _ => k
def Term.op : Term → ByteArray | .mk _ o _ _ _ _ _ _ _ => o
def Term.nt : Term → Bool | .mk _ _ n _ _ _ _ _ _ => n
def Term.v : Term → Val | .mk _ _ _ v _ _ _ _ _ => v
def Term.of : Term → ByteArray | .mk _ _ _ _ o _ _ _ _ => o
def Term.nm : Term → ByteArray | .mk _ _ _ _ _ n _ _ _ => n
def Term.tb : Term → Int | .mk _ _ _ _ _ _ t _ _ => t
def Term.co : Term → Int | .mk _ _ _ _ _ _ _ c _ => c
def Term.args : Term → List Term | .mk _ _ _ _ _ _ _ _ a => a
instance : Inhabited Term := ⟨.mk 0 ⟨#[]⟩ false default ⟨#[]⟩ ⟨#[]⟩ 0 0 []⟩
def valCells (v : Val) : List D := [.v (.int .u8 v.kind), .v (.int .i64 v.int), .v (.string v.text)]
mutual
def tcells : Term → List D
  | .mk k o n v f m t c xs => [.v (.int .u8 k), .v (.string o), .v (.bool n), .v (.int .u8 v.kind), .v (.int .i64 v.int), .v (.string v.text), .v (.string f), .v (.string m), .v (.int .i64 t), .v (.int .i64 c), .sl (tlist xs)]
def tlist : List Term → List (List D)
  | [] => []
  | t :: l => tcells t :: tlist l
end
theorem tlist_eq : ∀ l : List Term, tlist l = l.map tcells
  | [] => by simp [tlist]
  | t :: l => by simp [tlist, tlist_eq l]
theorem tcells_eq (t : Term) : tcells t = [.v (.int .u8 t.kind), .v (.string t.op), .v (.bool t.nt), .v (.int .u8 t.v.kind), .v (.int .i64 t.v.int), .v (.string t.v.text), .v (.string t.of), .v (.string t.nm), .v (.int .i64 t.tb), .v (.int .i64 t.co), .sl (t.args.map tcells)] := by
  cases t with
  | mk => simp only [tcells, tlist_eq, Term.kind, Term.op, Term.nt, Term.v, Term.of, Term.nm, Term.tb, Term.co, Term.args]
theorem tc0 (t : Term) : (tcells t)[0]? = some (.v (.int .u8 t.kind)) := by rw [tcells_eq]; (rfl)
theorem tc1 (t : Term) : (tcells t)[1]? = some (.v (.string t.op)) := by rw [tcells_eq]; (rfl)
theorem tc2 (t : Term) : (tcells t)[2]? = some (.v (.bool t.nt)) := by rw [tcells_eq]; (rfl)
theorem tc3 (t : Term) : (tcells t)[3]? = some (.v (.int .u8 t.v.kind)) := by rw [tcells_eq]; (rfl)
theorem tc4 (t : Term) : (tcells t)[4]? = some (.v (.int .i64 t.v.int)) := by rw [tcells_eq]; (rfl)
theorem tc5 (t : Term) : (tcells t)[5]? = some (.v (.string t.v.text)) := by rw [tcells_eq]; (rfl)
theorem tc6 (t : Term) : (tcells t)[6]? = some (.v (.string t.of)) := by rw [tcells_eq]; (rfl)
theorem tc7 (t : Term) : (tcells t)[7]? = some (.v (.string t.nm)) := by rw [tcells_eq]; (rfl)
theorem tc8 (t : Term) : (tcells t)[8]? = some (.v (.int .i64 t.tb)) := by rw [tcells_eq]; (rfl)
theorem tc9 (t : Term) : (tcells t)[9]? = some (.v (.int .i64 t.co)) := by rw [tcells_eq]; (rfl)
theorem tc10 (t : Term) : (tcells t)[10]? = some (.sl (t.args.map tcells)) := by rw [tcells_eq]; (rfl)
theorem tc_len (t : Term) : (tcells t).length = 11 := by rw [tcells_eq]; (rfl)
theorem tc_one (t : Term) : (tcells t).all one = true := by rw [tcells_eq]; (rfl)
theorem tc_nobs (t : Term) : (tcells t).all nobs = true := by rw [tcells_eq]; (rfl)
theorem tc_strip (t : Term) : (tcells t).map strip = tcells t := by rw [tcells_eq]; (rfl)
theorem tc_take (t : Term) : (tcells t).take 11 = tcells t := by rw [List.take_of_length_le]; rw [tc_len]; exact Nat.le_refl _
theorem tc_fr (b : Nat) (c : List D) (t : Term) : (tcells t).map (frD b c) = tcells t := by rw [tcells_eq]; (rfl)
theorem tc_fin (t : Term) : (tcells t).map fin1 = tcells t := by rw [tcells_eq]; (rfl)
theorem tl_get (l : List Term) (i : Nat) : (l.map tcells)[i]? = (l[i]?).map tcells := List.getElem?_map ..
theorem vc0 (v : Val) : (valCells v)[0]? = some (.v (.int .u8 v.kind)) := (rfl)
theorem vc1 (v : Val) : (valCells v)[1]? = some (.v (.int .i64 v.int)) := (rfl)
theorem vc2 (v : Val) : (valCells v)[2]? = some (.v (.string v.text)) := (rfl)
theorem vc_len (v : Val) : (valCells v).length = 3 := (rfl)
theorem vc_one (v : Val) : (valCells v).all one = true := (rfl)
theorem vc_nobs (v : Val) : (valCells v).all nobs = true := (rfl)
theorem vc_strip (v : Val) : (valCells v).map strip = valCells v := (rfl)
theorem vc_fin (v : Val) : (valCells v).map fin1 = valCells v := (rfl)
theorem vc_take (v : Val) : (valCells v).take 3 = valCells v := (rfl)
theorem vc_fr (b : Nat) (c : List D) (v : Val) : (valCells v).map (frD b c) = valCells v := (rfl)
theorem vl_get (l : List Val) (i : Nat) : (l.map valCells)[i]? = (l[i]?).map valCells := List.getElem?_map ..
theorem vc_mk (k n : Int) (s : ByteArray) : valCells ⟨k, n, s⟩ = [.v (.int .u8 k), .v (.int .i64 n), .v (.string s)] := (rfl)
theorem vc_eq (v : Val) : valCells v = [.v (.int .u8 v.kind), .v (.int .i64 v.int), .v (.string v.text)] := (rfl)
/-- a row of values -/
def rowC (l : List Val) : List D := [.sl (l.map valCells)]
theorem rc0 (l : List Val) : (rowC l)[0]? = some (.sl (l.map valCells)) := (rfl)
theorem rc_len (l : List Val) : (rowC l).length = 1 := (rfl)
theorem rl_get (l : List (List Val)) (i : Nat) : (l.map rowC)[i]? = (l[i]?).map rowC := List.getElem?_map ..
theorem tc_val (t : Term) : ((tcells t).drop 3).take 3 = [.v (.int .u8 t.v.kind), .v (.int .i64 t.v.int), .v (.string t.v.text)] := by rw [tcells_eq]; (rfl)
attribute [go_sem] vc_eq tc_val vl_get rc0 rc_len rl_get
/-- numbers, as a slice -/
def ints (l : List Int) : List (List D) := l.map fun n => [D.v (.int .i64 n)]
theorem ints_len (l : List Int) : (ints l).length = l.length := by simp [ints]
theorem ints_get (l : List Int) (i : Nat) : (ints l)[i]? = (l[i]?).map fun n => [D.v (.int .i64 n)] := by simp [ints]
theorem ints_nil : ints [] = [] := rfl
theorem ints_app (a b : List Int) : ints a ++ ints b = ints (a ++ b) := by simp [ints]
theorem ints_one (n : Int) : [[D.v (.int .i64 n)]] = ints [n] := rfl
theorem lmap_len {α β : Type} (f : α → β) (l : List α) : (l.map f).length = l.length := List.length_map ..
attribute [go_sem] tc0 tc1 tc2 tc3 tc4 tc5 tc6 tc7 tc8 tc9 tc10 tc_len tc_one tc_nobs tc_strip tc_take tc_fr tc_fin tl_get ints_len ints_get ints_app lmap_len Int.natCast_nonneg Int.toNat_natCast bne_iff_ne
theorem wrap_fit {n : Int} (h1 : -(2 ^ 63) ≤ n) (h2 : n < 2 ^ 63) : IntKind.i64.wrap n = n := by
  simp [IntKind.wrap, IntKind.bits, IntKind.signed]; omega
theorem wrap_succ {i : Nat} (h : i + 1 < 2 ^ 63) : IntKind.i64.wrap ((i : Int) + 1) = ((i + 1 : Nat) : Int) := by
  rw [wrap_fit (by omega) (by omega)]; omega

end Go.Proofs.YtcdeidljcmlfdaaDoor
