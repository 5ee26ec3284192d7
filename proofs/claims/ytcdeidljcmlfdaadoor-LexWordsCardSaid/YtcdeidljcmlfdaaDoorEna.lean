/- A reading of the program's own text by values: what a function makes of data, told without memory, and that the machine does just that, in whatever order (the session's own words). -/
import Derived.Orders
import Derived.Maps.AppendAt
import Derived.Laws.Rows
import Derived.Below
import Derived.KernelRfl
import Derived.Lib.Builder
import Derived.Lib.AppendStr
namespace Go.Eng
open Go.RowKit
set_option linter.unusedVariables false
set_option linter.unusedSimpArgs false

/-! ### Data -/
/-- What a place holds, told by value. 'v': this very value. 'sl': a slice whose elements (each a list of cells) stay as they are. 'own': a slice of the call's own, to which may be appended. 'bp': a place in a variable of the call's own. 'ep': the place of a cell of an element. 'bz': nil or the place of the very variable at whose head it stands, whose block is of that type. 'bs': a slice whose elements are a variable's cells. 'nn': some interface value that is not nil. 'ag2': parts among which slices of the call's own may be. 'tp2': several results of which the c-th is r. -/
inductive D where
  | undef
  | v (x : Value)
  | sl (es : List (List D))
  | own (e : TypeId) (k : Nat) (es : List (List D))
  | agg (cs : List D)
  | tup (ds : List D)
  | bp (b off : Nat)
  | ep (k : Nat) (es : List (List D)) (i j : Nat)
  | bs (b off k n : Nat)
  | fn (f : FuncId) (xs ys : List D)
  | raw (k m : Nat) (cs : List D)
  | nn
  | bz (t : TypeId)
  | slx (k : Nat) (es : List (List D))
  | ag2 (cs : List D)
  | tp2 (c : Nat) (r : D) (ds : List D)
  deriving Inhabited
/-- from here on: variables that were handed in -/
def OB : Nat := 1000000

/-- .. hints that rights go along -/
def HM : Nat := 3000000

/-- Cells that stay as they are. -/
abbrev FZ := Nat → Nat → Option Value
/-- the program's own tables: what its variables hold from the start on -/
def tabs (g : Nat) : Option (List Value) := none
/-- the program's variables of which more is known: their numbers, and what their blocks hold -/
def gids : List Nat := [2, 3, 4]
def gok (g : Nat) (cs : Array Value) : Prop := match g with | 2 => ∃ m : Int, cs = #[.int .i64 m] | 3 => ∃ ev : Value, cs = #[ev] ∧ (ev = .nilIface ∨ ∃ (t : TypeId) (p : Value), ev = .iface t p) | 4 => ∃ ev : Value, cs = #[ev] ∧ (ev = .nilIface ∨ ∃ (t : TypeId) (p : Value), ev = .iface t p) | _ => True
def Bs (Z : FZ) : Prop := ∀ g cs, tabs g = some cs → ∀ o (h : o < cs.length), Z g o = some cs[o]

inductive Rp (Z : FZ) : Value → D → Prop
  | v (x : Value) : Rp Z x (.v x)
  | sl (a : Option Addr) (n c k : Nat) (es : List (List D)) (hn : n = es.length) (hc : n ≤ c) (ad : Addr) (ha : 0 < n → a = some ad) (hsp : ad.spot = none) (hk : ∀ i (hi : i < es.length), (es[i]).length = k)
      (x : Nat → Nat → Value) (hz : ∀ i (hi : i < es.length) j (hj : j < (es[i]).length), Z ad.block (ad.off + i * k + j) = some (x i j))
      (hr : ∀ i (hi : i < es.length) j (hj : j < (es[i]).length), Rp Z (x i j) (es[i][j])) : Rp Z (.slice a n c) (.sl es)
  | agg (xs : List Value) (cs : List D) (hl : xs.length = cs.length) (h : ∀ i (hi : i < cs.length) (hj : i < xs.length), Rp Z xs[i] cs[i]) : Rp Z (.agg xs.toArray) (.agg cs)
  | tup (xs : List Value) (cs : List D) (hl : xs.length = cs.length) (h : ∀ i (hi : i < cs.length) (hj : i < xs.length), Rp Z xs[i] cs[i]) : Rp Z (.tuple xs.toArray) (.tup cs)
  | nn (t : TypeId) (v : Value) : Rp Z (.iface t v) .nn
  | ep (g o k : Nat) (es : List (List D)) (i j : Nat) (hk : ∀ i (hi : i < es.length), (es[i]).length = k) (x : Nat → Nat → Value) (hz : ∀ i (hi : i < es.length) j (hj : j < (es[i]).length), Z g (o + i * k + j) = some (x i j))
      (hr : ∀ i (hi : i < es.length) j (hj : j < (es[i]).length), Rp Z (x i j) (es[i][j])) : Rp Z (.pointer (some ⟨g, o + i * k + j, none⟩)) (.ep k es i j)

def FZ.le (Z Z' : FZ) : Prop := ∀ b o x, Z b o = some x → Z' b o = some x
theorem FZ.le_refl (Z : FZ) : Z.le Z := fun _ _ _ h => h
theorem FZ.le_trans {Z Z' Z'' : FZ} (h : Z.le Z') (h' : Z'.le Z'') : Z.le Z'' := fun b o x hx => h' b o x (h b o x hx)

theorem Bs.mono {Z Z' : FZ} (hZ : Z.le Z') (h : Bs Z) : Bs Z' := fun g cs hc o ho => hZ _ _ _ (h g cs hc o ho)
theorem Rp.mono {Z Z' : FZ} (hZ : Z.le Z') {x : Value} {d : D} (h : Rp Z x d) : Rp Z' x d := by
  induction h with
  | v x => exact .v x
  | sl a n c k es hn hc ad ha hsp hk x hz hr ih => exact .sl a n c k es hn hc ad ha hsp hk x (fun i hi j hj => hZ _ _ _ (hz i hi j hj)) ih
  | agg xs cs hl h ih => exact .agg xs cs hl ih
  | tup xs cs hl h ih => exact .tup xs cs hl ih
  | nn t v => exact .nn t v
  | ep g o k es i j hk x hz hr ih => exact .ep g o k es i j hk x (fun i hi j hj => hZ _ _ _ (hz i hi j hj)) ih

/-- Those cells stand in the world; each is one value. -/
def Agree (Z : FZ) (w : World) : Prop := ∀ b o x, Z b o = some x → w.cell? ⟨b, o, none⟩ = some x ∧ x.oneCell' = true


/-! ### What an operation makes -/
/-- What asks nothing of the world. -/
def pureRun {α : Type} (P : Program) : Sem α → Option α
  | .pure a => some a
  | .program k => pureRun P (k P)
  | .mark _ k => pureRun P k
  | _ => none
theorem pureRun_run {α : Type} {P : Program} (s : Sem α) (a : α) (w : World) (h : pureRun P s = some a) : s.run P w = .ok a w := by
  induction s with
  | pure x => simp only [pureRun, Option.some.injEq] at h; subst h; rfl
  | program k ih => exact ih P h
  | mark m k ih => exact ih h
  | _ => simp [pureRun] at h

def toV : D → Option Value
  | .v x => some x
  | .agg cs => (go cs).map fun l => .agg l.toArray
  | _ => none
where
  go : List D → Option (List Value)
    | [] => some []
    | .v x :: l => (go l).map (x :: ·)
    | _ :: _ => none
theorem toV_go (Z : FZ) : ∀ (cs : List D) (l xs : List Value), toV.go cs = some l → xs.length = cs.length → (∀ i (hi : i < cs.length) (hj : i < xs.length), Rp Z xs[i] cs[i]) → xs = l
  | [], l, xs, h, hl, _ => by
    simp only [toV.go, Option.some.injEq] at h; subst h
    exact List.eq_nil_of_length_eq_zero hl
  | d :: cs, l, [], h, hl, _ => by simp at hl
  | d :: cs, l, x :: xs, h, hl, hr => by
    cases d with
    | v y =>
      simp only [toV.go, Option.map_eq_some_iff] at h
      obtain ⟨l', h', rfl⟩ := h
      have h0 := hr 0 (by simp) (by simp)
      simp only [List.getElem_cons_zero] at h0
      cases h0
      refine congrArg _ (toV_go Z cs l' xs h' (by simpa using hl) fun i hi hj => ?_)
      have h1 := hr (i + 1) (by simp; omega) (by simp; omega)
      simp only [List.getElem_cons_succ] at h1
      exact h1
    | _ => simp [toV.go] at h
theorem toV_rp {Z : FZ} {x y : Value} {d : D} (h : toV d = some y) (hr : Rp Z x d) : x = y := by
  cases hr with
  | v x => simpa [toV] using h
  | agg xs cs hl hh =>
    simp only [toV, Option.map_eq_some_iff] at h
    obtain ⟨l, h', rfl⟩ := h
    rw [toV_go Z cs l xs h' hl hh]
  | _ => simp [toV] at h

def strip1 : D → D
  | .own _ _ es => .sl es
  | d => d
/-- .. but for slices without room -/
def stripO : D → D
  | .own _ _ es => .sl es
  | .ag2 cs => .agg (cs.map strip1)
  | d => d
def stripR : D → D
  | .raw _ _ _ => .undef
  | d => stripO d
def strip : D → D
  | .own _ _ es => .sl es
  | .slx _ es => .sl es
  | .ag2 cs => .agg (cs.map strip1)
  | .tp2 c r ds => .tp2 c (stripR r) ds
  | d => d
/-- does a right go with it? -/
def isOwn : D → Bool
  | .own _ _ _ => true
  | _ => false
def rtr : D → Bool
  | .own _ _ _ | .ag2 _ | .raw _ _ _ => true
  | _ => false
def D.rt : D → Bool
  | .own _ _ _ | .ag2 _ => true
  | .tp2 _ r _ => rtr r
  | _ => false
/-- as it is handed on: nothing may be appended to it any more -/
def fin1 : D → D
  | .own _ _ es => .sl es
  | .slx _ es => .sl es
  | .v (.slice none 0 0) => .sl []
  | d => d
def fin : D → D
  | .agg cs => .agg (cs.map fin1)
  | d => fin1 d
/-- as it is handed over with its rights -/
def finW : D → D
  | .slx _ es => .sl es
  | d => d
def finA (q : Bool) : D → D
  | .ag2 cs => .ag2 (cs.map finW)
  | .own e k es => if q = true then .own e k es else .sl es
  | d => fin d
/-- a result: what may be appended to stays so -/
def finR : D → D
  | .own e k es => .own e k es
  | d => fin d
def cellsD : D → List D
  | .agg cs => cs
  | .ag2 cs => cs
  | .v (.agg xs) => xs.toList.map .v
  | d => [d]
def one : D → Bool
  | .v x => x.oneCell'
  | .sl _ | .own _ _ _ | .bs _ _ _ _ | .bp _ _ | .fn _ _ _ | .ep _ _ _ _ | .nn | .slx _ _ => true
  | _ => false
/-- .. at a variable's head, too -/
def oneb : D → Bool
  | .bz _ => true
  | d => one d
/-- variables of that type are told by 'bz' -/
def bzt : Option TypeId := none
def bzc (t : TypeId) (cs : List D) : List D := if bzt = some t then (match cs with
  | .v (.pointer none) :: r => .bz t :: r
  | cs => cs) else cs
theorem one_oneb {d : D} (h : one d = true) : oneb d = true := by cases d <;> first | exact h | rfl
theorem all_oneb {cs : List D} (h : cs.all one = true) : cs.all oneb = true := List.all_eq_true.2 fun d hd => one_oneb (List.all_eq_true.1 h d hd)
/-- data that may be handed on -/
def D.tops : D → Bool
  | .own _ _ _ | .v _ | .sl _ | .slx _ _ => true
  | _ => false
def nobs : D → Bool
  | .bs _ _ _ _ | .bp _ _ | .fn _ _ _ | .bz _ | .slx _ _ => false
  | _ => true
def data : D → Bool
  | .v _ | .sl _ | .ep _ _ _ _ | .nn => true
  | .agg cs => cs.all nobs
  | _ => false
/-- what may be handed to a call -/
def arg : D → Bool
  | .v _ | .sl _ | .agg _ | .bs _ _ _ _ | .bp _ _ | .fn _ _ _ | .ep _ _ _ _ | .nn => true
  | _ => false
/-- .. with rights -/
def argA : D → Bool
  | .own _ _ _ | .ag2 _ => true
  | d => arg d
/-- the variables that are named there -/
def box1 : D → List Nat
  | .bp b _ => [b]
  | .bs b _ _ _ => [b]
  | _ => []
def boxc : D → List Nat
  | .fn _ xs ys => xs.flatMap box1 ++ ys.flatMap box1
  | d => box1 d
def boxa : D → List Nat
  | .agg cs => cs.flatMap boxc
  | .ag2 cs => cs.flatMap boxc
  | d => boxc d
def boxD : D → List Nat
  | .tup ds => ds.flatMap boxa
  | .tp2 _ r ds => boxa r ++ ds.flatMap boxa
  | d => boxa d
/-- does a place of that variable stand there? -/
def refc (b : Nat) : D → Bool
  | .bs b' _ _ _ => b' == b
  | .bp b' _ => b' == b
  | .fn _ xs ys => (xs.flatMap box1 ++ ys.flatMap box1).contains b
  | _ => false
def refs (b : Nat) : D → Bool
  | .bp b' _ => b' == b
  | .bs b' _ _ _ => b' == b
  | .fn _ xs ys => (xs.flatMap box1 ++ ys.flatMap box1).contains b
  | .agg cs => cs.any (refc b)
  | .ag2 cs => cs.any (refc b)
  | .tup ds => ds.any fun d => (boxa d).contains b
  | .tp2 _ r ds => (boxa r).contains b || ds.any fun d => (boxa d).contains b
  | _ => false
/-- other names -/
def ren1 (m : Nat → Nat) : D → D
  | .bp b o => .bp (m b) o
  | .bs b o k n => .bs (m b) o k n
  | d => d
def renc (m : Nat → Nat) : D → D
  | .fn f xs ys => .fn f (xs.map (ren1 m)) (ys.map (ren1 m))
  | d => ren1 m d
def rena (m : Nat → Nat) : D → D
  | .agg cs => .agg (cs.map (renc m))
  | .ag2 cs => .ag2 (cs.map (renc m))
  | d => renc m d
def renD (m : Nat → Nat) : D → D
  | .tup ds => .tup (ds.map (rena m))
  | .tp2 c r ds => .tp2 c (rena m r) (ds.map (rena m))
  | d => rena m d
/-- the variables that can be reached -/
def reach (β : Nat → Option (List D)) : Nat → List Nat → List Nat → Option (List Nat)
  | _, [], seen => some seen
  | 0, _ :: _, _ => none
  | n + 1, b :: l, seen => if seen.contains b = true then reach β n l seen else (β b).bind fun cs => reach β n (cs.flatMap boxc ++ l) (seen ++ [b])
def kill (i : Nat) (d : D) : D := if refs i d then .undef else d
def killb (i : Nat) (c : Option (List D)) : Option (List D) := c.bind fun cs => if cs.any (refc i) then none else some cs
def isAggD : TypeDesc → Bool
  | .struct _ | .array _ _ => true
  | _ => false
def sizeT (P : Program) (t : TypeId) : Option Nat := (P.info? t).map (·.size)
/-- a nil slice is one to which may be appended -/
def norm (P : Program) (t : TypeId) (d : D) : D :=
  match d with
  | .v (.slice none 0 0) => match P.underlying t with
    | some (.slice e) => match P.info? e with
      | some i => .own e i.size []
      | none => d
    | _ => d
  | d => d
def setCells (cs : List D) (n : Nat) (xs : List D) : List D := cs.take n ++ xs ++ cs.drop (n + xs.length)
/-- the parts of a composite, laid at their places -/
def fillD (place : Nat → Option (Nat × Nat)) : List D → List (Nat × D) → Option (List D)
  | cs, [] => some cs
  | cs, (i, d) :: rest => (place i).bind fun p =>
    if (cellsD (stripO d)).length = p.2 ∧ p.1 + p.2 ≤ cs.length ∧ (cellsD (stripO d)).all one = true then fillD place (setCells cs p.1 (cellsD (stripO d))) rest else none
def chunks (k : Nat) : Nat → List D → List (List D)
  | 0, _ => []
  | n + 1, cs => cs.take k :: chunks k n (cs.drop k)
def idx : D → Option Int
  | .v (.int _ i) => some i
  | _ => none

/-- What an operation does to what is told: the value of its temporary, the variable that it makes, the temporaries whose slice goes over, what it stores. -/
structure Eff where
  d : D
  box : Option (List D) := none
  gone : List Tmp := []
  gb : Option (Nat × Nat) := none
  rd : List Nat := []
  st : Option (Nat × Nat × List D) := none
  sets : List (Nat × List D) := []

def tmpOf : Operand → List Tmp
  | .tmp t => [t]
  | _ => []
/-- whose right goes over -/
def goneOf (x : Operand) : D → List Tmp
  | .own _ _ _ => tmpOf x
  | .ag2 _ => tmpOf x
  | .tp2 _ _ _ => tmpOf x
  | _ => []
/-- .. of what is handed over -/
def goneA (xs : List Operand) (ds : List D) : List Tmp := (xs.zip ds).flatMap fun p => if p.2.rt = true then tmpOf p.1 else []
/-- a function's own slices' elements -/
def esOf : D → Option (List (List D))
  | .sl es | .own _ _ es => some es
  | .v (.slice _ 0 _) => some []
  | _ => none
def ofZero (P : Program) (t : TypeId) : Option (List D) := ((P.info? t).bind (·.zero)).map fun z => z.cells.toList.map D.v
def fieldOf (P : Program) (s : TypeId) (f : Nat) : Option (Nat × TypeId × Nat) :=
  match P.underlying s with
  | some (.struct fields) => (fields[f]?).bind fun x => (sizeT P x.type).bind fun n => some (x.offset, x.type, n)
  | _ => none
def partD (P : Program) (t : TypeId) (n : Nat) (cs : List D) (off : Nat) : Option D :=
  (P.underlying t).bind fun q => if off + n ≤ cs.length then if isAggD q then some (.agg ((cs.drop off).take n)) else if n = 1 then (cs[off]?).map (norm P t) else none else none
/-- out of a variable -/
def partB (P : Program) (t : TypeId) (n : Nat) (cs : List D) (off : Nat) : Option D :=
  partD P t n (cs.map strip) off

/-- the operation's place is what is appended to -/
def takes (ops : Array Oper) (o : Oper) : Bool := match o.dst with
  | some d => ops.any fun p => match p.op with
    | .call c => (match c.callee, c.args.toList with
      | .builtin .append, .tmp t :: _ => t == d
      | _, _ => false)
    | _ => false
  | none => false

def bound (ρ : Operand → Option D) (n : Int) : Option Operand → Option Int
  | none => some n
  | some x => (ρ x).bind idx
def sameOp : Operand → Operand → Bool
  | .tmp a, .tmp b => a == b
  | .const (.int _ a), .const (.int _ b) => a == b
  | _, _ => false
/-- is it the program's own text? -/
def bodied (P : Program) (f : FuncId) : Bool := ((P.funcs[f]?).map fun fn => fn.body.isSome).getD false
def outD : Value → Option D
  | .tuple xs => some (.tup (xs.toList.map .v))
  | x => some (.v x)
/-- what stands outside the program's text -/
def ext (P : Program) (f : FuncId) (ds : List D) : Option D := (P.funcs[f]?).bind fun fn => if fn.body.isNone = true ∧ (fn.name == "runtime.NumGoroutine") = false ∧ (Extern.findNext fn).isNone = true then (Extern.find fn).bind fun e => (ds.mapM toV).bind fun vs => (pureRun P (e vs.toArray)).bind outD else none
abbrev FTy := FuncId → List D → List (List D) → Option (D × List (List D))
/-- a call that hands in no variable -/
def F0 (F : FTy) (f : FuncId) (ds : List D) : Option D := (F f ds []).bind fun p => if p.2.isEmpty = true then some p.1 else none
def callD (P : Program) (F : FTy) (f : FuncId) (ds : List D) : Option D := if bodied P f = true then F0 F f ds else ext P f ds
/-- a function, what is bound to it, what is captured -/
def fnOf : D → Option (FuncId × List D × List D)
  | .v (.func (.func f) x y) => if x.size = 0 ∧ y.size = 0 then some (f, [], []) else none
  | .fn f xs ys => some (f, xs, ys)
  | _ => none
def fn1 : D → Bool
  | .v _ | .sl _ | .ep _ _ _ _ | .nn | .bs _ _ _ _ | .bp _ _ => true
  | _ => false
def idxIn (L : List Nat) (b : Nat) : Nat := OB + L.idxOf b
def inIdx (L : List Nat) (i : Nat) : Nat := L.getD (i - OB) i
/-- what a call gave: a new block is a variable from then on, where it is hinted so -/
def retE (hint : Bool) (dst : Option Tmp) (gs : List Tmp) : D → Option Eff
  | .raw k m cs => if hint = true ∧ dst.isSome = true ∧ dst.getD 0 < OB then some { d := .bs (dst.getD 0) 0 k m, box := some cs, gone := gs } else if hint = false ∧ dst.isSome = true ∧ cs.length = m * k then some { d := .sl (chunks k m cs), gone := gs } else none
  | r => some { d := r, gone := gs }
/-- a call that hands in variables -/
def callO (P : Program) (F : FTy) (β : Nat → Option (List D)) (f : FuncId) (ds : List D) (L : List Nat) (gs : List Tmp) : Option Eff :=
  if bodied P f = true then (L.mapM β).bind fun os => (F f (ds.map (renD (idxIn L))) (os.map fun cs => cs.map (renc (idxIn L)))).bind fun p =>
    if p.2.length = L.length then some { d := renD (inIdx L) p.1, gone := gs, rd := L, sets := L.zip (p.2.map fun cs => cs.map (renc (inIdx L))) } else none
  else none
def slT (P : Program) (t : TypeId) : Bool := match P.underlying t with
  | some (.slice _) => true
  | _ => false
def ptT (P : Program) (t : TypeId) : Bool := match P.underlying t with
  | some (.pointer _) => true
  | _ => false
def ifT (P : Program) (t : TypeId) : Bool := match P.underlying t with
  | some (.interface _) => true
  | _ => false
/-- pointers to what has a size -/
def ptS (P : Program) (t : TypeId) : Bool := match P.underlying t with
  | some (.pointer e) => match P.info? e with
    | some i => i.size != 0
    | none => false
  | _ => false
/-- held against another one that is it (q) or isn't it -/
def eqR (q : Bool) : BinOp → Option Value
  | .eql => some (.bool q)
  | .neq => some (.bool !q)
  | _ => none
/-- an append: where it is hinted it makes a variable of what was put onto nothing -/
def appV (hint : Bool) (dst : Option Tmp) (es p : List (List D)) : Bool := hint && es.isEmpty && !p.isEmpty && decide (dst.getD 0 < OB) && p.flatten.all fun d => nobs d && one d
def appE (hint : Bool) (dst : Option Tmp) (e : TypeId) (k : Nat) (es p : List (List D)) (gone : List Tmp) : Eff :=
  if appV hint dst es p = true then { d := .bs (dst.getD 0) 0 k p.length, box := some p.flatten, gone := gone } else { d := .own e k (es ++ p), gone := gone }
/-- a slice of parts: where it is hinted one without room -/
def bsE (hint : Bool) (e : TypeId) (k : Nat) (es : List (List D)) : D := if hint = true then .slx k es else .own e k es
/-- a string's bytes -/
def strEs (s : ByteArray) : List (List D) := (Lib.strCells s).map fun v => [.v v]
def z8 : Option Value → Bool
  | some (.int .u8 0) => true
  | _ => false
theorem z8_of {z : Option Value} (h : z8 z = true) : z = some (.int .u8 0) := by
  unfold z8 at h
  split at h
  · rfl
  · cases h
/-- a string's bytes, put behind bytes of the call's own -/
def appS (P : Program) (t t' : TypeId) (a b : D) (g : List Tmp) (q : Bool) : Option Eff := match a, b with
  | .own e k es, .v (.string s) => match P.underlying t, P.underlying t' with
    | some (.slice e'), some .string => (P.info? e).bind fun i => if e = e' ∧ k = 1 ∧ i.size = 1 ∧ i.bytes = 1 ∧ z8 i.zero = true ∧ es.length + s.size ≤ 140737488355328 ∧ es.length + s.size ≤ maxLen ∧ q = true then some { d := .own e 1 (es ++ strEs s), gone := g } else none
    | _, _ => none
  | _, _ => none
/-- slices of bytes -/
def bytT (P : Program) (t : TypeId) : Option TypeId := match P.underlying t with
  | some (.slice e) => (match P.underlying e with
    | some (.int .u8) => some e
    | _ => none)
  | _ => none
/-- bytes to a string? -/
def b2s (P : Program) (s t : TypeId) : Bool := (bytT P s).isSome && (match P.underlying t with
  | some .string => true
  | _ => false)
def bytN : List (List D) → Option (List Int)
  | [] => some []
  | [.v (.int .u8 n)] :: es => (bytN es).map (n :: ·)
  | _ :: _ => none
/-- a string of those bytes -/
def bsI (l : List Int) : ByteArray := ⟨(l.map fun n => UInt8.ofNat n.toNat).toArray⟩
/-- bytes out of a string: a slice of the call's own; where it is hinted, a variable -/
def byE (hint : Bool) (dst : Option Tmp) (e : TypeId) (b : ByteArray) : Eff :=
  if (hint && decide (dst.getD 0 < OB)) = true then { d := .bs (dst.getD 0) 0 1 b.size, box := some (strEs b).flatten } else { d := .own e 1 (strEs b) }
def convD (P : Program) (hint : Bool) (dst : Option Tmp) (β : Nat → Option (List D)) (s t : TypeId) : D → Option Eff
  | .v (.string b) => (match bytT P t with
    | some e => if b.size ≤ 140737488355328 ∧ b.size ≤ maxLen ∧ (P.underlying s).isSome = true ∧ dst.isSome = true then some (byE hint dst e b) else none
    | none => (pureRun P (convert s t (.string b))).map fun r => { d := .v r })
  | .own _ _ es => if b2s P s t = true then (bytN es).map fun l => { d := .v (.string (bsI l)) } else none
  | .sl es => if b2s P s t = true then (bytN es).map fun l => { d := .v (.string (bsI l)) } else none
  | .bs b off k n => if b2s P s t = true ∧ k = 1 then (β b).bind fun cs => if off + n ≤ cs.length then (bytN (chunks 1 n (cs.drop off))).map fun l => { d := .v (.string (bsI l)), rd := [b] } else none else none
  | a => (toV a).bind fun a => (pureRun P (convert s t a)).map fun r => { d := .v r }
/-- what is held against nil, or against itself -/
def cmpD (P : Program) (op : BinOp) (t : TypeId) : D → D → Option Value
  | .sl (_ :: _), .v (.slice none 0 0) => if slT P t = true then eqR false op else none
  | .bp _ _, .v (.pointer none) => if ptT P t = true then eqR false op else none
  | .ep _ _ _ _, .v (.pointer none) => if ptT P t = true then eqR false op else none
  | .nn, .v .nilIface => if ifT P t = true then eqR false op else none
  | .bp b o, .bp b' o' => if ptS P t = true ∧ b = b' ∧ o = o' then eqR true op else none
  | _, _ => none
def dop (P : Program) (F : FTy) (tk : Bool × Bool) (ρ : Operand → Option D) (β : Nat → Option (List D)) (o : Oper) : Option Eff :=
  match o.op with
  | .move x => (ρ x).bind fun d => if tk.1 then some { d := norm P o.type d, gone := goneOf x d } else some { d := strip d }
  | .assign x => (ρ x).bind fun d => some { d := norm P o.type d, gone := goneOf x d }
  | .pick c a b => (ρ c).bind fun c => match c with
    | .v (.bool q) => (ρ (if q then a else b)).bind fun d => if data d then some { d := d } else none
    | _ => none
  | .alloc t => (ofZero P t).bind fun cs => if cs.all one = true ∧ o.dst.getD 0 < OB then some { d := .bp (o.dst.getD 0) 0, box := some (bzc t cs) } else none
  | .box t x => (ρ x).bind fun d => if (cellsD d).all one = true ∧ (cellsD d).any (refc (o.dst.getD 0)) = false ∧ o.dst.getD 0 < OB then some { d := .bp (o.dst.getD 0) 0, box := some (cellsD d), gone := goneOf x d } else none
  | .makeSlice t l c => if sameOp l c = true then (ρ l).bind fun a => (idx a).bind fun n => match P.underlying t with
    | some (.slice e) => (P.info? e).bind fun i => (ofZero P e).bind fun z => if 0 ≤ n ∧ n ≤ (maxLen : Int) ∧ n * i.bytes ≤ 140737488355328 ∧ 0 < i.size ∧ z.length = i.size ∧ z.all one = true ∧ o.dst.getD 0 < OB then
        some { d := .bs (o.dst.getD 0) 0 i.size n.toNat, box := some (List.replicate n.toNat z).flatten } else none
    | _ => none
    else none
  | .binOp op t x y _ => (ρ x).bind fun a => (ρ y).bind fun b => match cmpD P op t a b with
    | some r => some { d := .v r }
    | none => (toV a).bind fun a => (toV b).bind fun b => (pureRun P (do eqGuard op t x y a b; binOp op t a b)).map fun r => { d := .v r }
  | .makeFunc (.func f) xs ys => (xs.toList.mapM fun x => (ρ x).bind fun d => if fn1 d = true then some d else none).bind fun ds => (ys.toList.mapM fun x => (ρ x).bind fun d => if fn1 d = true then some d else none).bind fun es => some { d := .fn f ds es }
  | .unOp op _ x => (ρ x).bind fun a => (toV a).bind fun a => (pureRun P (Op.unary op a)).map fun r => { d := .v r }
  | .convert s t x => (ρ x).bind fun a => convD P tk.2 o.dst β s t a
  | .index t x i => (ρ x).bind fun a => (ρ i).bind fun b => match toV a with
    | some a => (toV b).bind fun b => (pureRun P (Instr.index t a b)).map fun r => { d := .v r }
    | none => match a, P.underlying t with
      | .agg cs, some (.array n e) => (idx b).bind fun i => (sizeT P e).bind fun k => if 0 ≤ i ∧ i < (n : Int) then (partD P e k cs (i.toNat * k)).map fun d => { d := d } else none
      | _, _ => none
  | .build t parts => (ofZero P t).bind fun z => if z.all one then (parts.toList.mapM fun (p : Nat × Operand) => (ρ p.2).map fun d => (p.1, d)).bind fun ps => match P.underlying t with
    | some (.struct fields) => (fields.toList.mapM fun f => (P.info? f.type).map fun i => (f.offset, i.size)).bind fun places =>
      (fillD (places.toArray[·]?) z ps).map fun cs => { d := .agg cs }
    | some (.array _ e) => (sizeT P e).bind fun k => (fillD (fun i => some (i * k, k)) z ps).map fun cs => { d := .agg cs }
    | _ => none
    else none
  | .buildSlice t n parts => match P.underlying t with
    | some (.slice e) => (sizeT P e).bind fun k => if 0 < k ∧ n * k ≤ 2 ^ 24 then (ofZero P e).bind fun z => if z.length = k ∧ z.all one then
        (parts.toList.mapM fun (p : Nat × Operand) => (ρ p.2).map fun d => (p.1, d)).bind fun ps =>
        (fillD (fun i => some (i * k, k)) ((List.range (n * k)).map fun j => z.getD (j % z.length) .undef) ps).bind fun cs => if cs.all nobs = true then some { d := bsE tk.2 e k (chunks k n (cs.map fin1)) } else none else none else none
    | _ => none
  | .load t x => (ρ x).bind fun a => match a with
    | .bp b off => (β b).bind fun cs => (sizeT P t).bind fun n => if tk.1 then (P.underlying t).bind fun q => if isAggD q then (if off + n ≤ cs.length ∧ ((cs.drop off).take n).all one = true then some { d := .ag2 ((cs.drop off).take n), rd := [b], st := some (b, off, ((cs.drop off).take n).map strip1) } else none) else (cs[off]?).bind fun d => if d.tops then some { d := norm P t d, gb := some (b, off), rd := [b] } else none else (partB P t n cs off).map fun d => { d := d, rd := [b] }
    | .ep k es i j => (es[i]?).bind fun cs => (sizeT P t).bind fun n => (partD P t n cs j).map fun d => { d := d }
    | _ => none
  | .store t x y => (ρ x).bind fun a => (ρ y).bind fun d => match a with
    | .bp b off => (β b).bind fun cs => (sizeT P t).bind fun n =>
      if (cellsD d).length = n ∧ off + n ≤ cs.length ∧ (cellsD d).all one = true then some { d := .v undef, gone := goneOf y d, rd := [b], st := some (b, off, cellsD d) } else none
    | _ => none
  | .nilCheck x => (ρ x).bind fun a => match a with
    | .bp b off => some { d := .bp b off }
    | .ep k es i j => some { d := .ep k es i j }
    | _ => none
  | .fieldAddr s x f => (ρ x).bind fun a => (fieldOf P s f).bind fun p => if p.2.2 = 0 then none else match a with
    | .bp b off => some { d := .bp b (off + p.1) }
    | .ep k es i j => some { d := .ep k es i (j + p.1) }
    | _ => none
  | .field s x f => (ρ x).bind fun a => (fieldOf P s f).bind fun p => match a with
    | .agg cs => (partD P p.2.1 p.2.2 cs p.1).map fun d => { d := d }
    | _ => none
  | .indexAddr t x i => (ρ x).bind fun a => (ρ i).bind fun b => (idx b).bind fun i => match P.underlying t with
    | some (.slice e) => (sizeT P e).bind fun k => match a with
      | .bs b off k' n => if k = k' ∧ 0 ≤ i ∧ i < (n : Int) then some { d := .bp b (off + i.toNat * k) } else none
      | a => (esOf a).bind fun es => if 0 ≤ i ∧ (es[i.toNat]?).any (fun e => e.length == k) = true then some { d := .ep k es i.toNat 0 } else none
    | some (.array n e) => (sizeT P e).bind fun k => if 0 ≤ i ∧ i < (n : Int) then (match a with
      | .ep k' es i0 j => some { d := .ep k' es i0 (j + i.toNat * k) }
      | .bp b off => some { d := .bp b (off + i.toNat * k) }
      | _ => none) else none
    | _ => none
  | .slice t x l h m => (ρ x).bind fun a => match a, m with
    | .v (.string s), none => match l, h with
      | some l, some h => (ρ l).bind fun l => (toV l).bind fun l => (ρ h).bind fun h => (toV h).bind fun h => (pureRun P (Instr.sliceAt t (.string s) (some l) (some h) none)).map fun r => { d := .v r }
      | some l, none => (ρ l).bind fun l => (toV l).bind fun l => (pureRun P (Instr.sliceAt t (.string s) (some l) none none)).map fun r => { d := .v r }
      | none, some h => (ρ h).bind fun h => (toV h).bind fun h => (pureRun P (Instr.sliceAt t (.string s) none (some h) none)).map fun r => { d := .v r }
      | none, none => none
    | a, none => (esOf a).bind fun p => (bound ρ 0 l).bind fun lo => (bound ρ p.length h).bind fun hi => match P.underlying t with
      | some (.slice e) => (sizeT P e).bind fun k => if p.all (fun e => e.length == k) = true ∧ 0 ≤ lo ∧ lo ≤ hi ∧ hi ≤ (p.length : Int) then some { d := .sl ((p.take hi.toNat).drop lo.toNat) } else none
      | _ => none
    | _, _ => none
  | .extract x i => (ρ x).bind fun a => match a with
    | .tup ds => (ds[i]?).bind fun d => some { d := norm P o.type d }
    | .tp2 c r ds => if i = c ∧ i < ds.length then (match r with
      | .undef => none
      | .raw k m cs => if tk.2 = true ∧ o.dst.isSome = true ∧ o.dst.getD 0 < OB then some { d := .bs (o.dst.getD 0) 0 k m, box := some cs, gone := tmpOf x } else none
      | r => some { d := norm P o.type r, gone := tmpOf x }) else (ds[i]?).bind fun d => some { d := norm P o.type d }
    | _ => none
  | .call c => match c.callee with
    | .builtin .len => match c.args.toList with
      | [x] => (ρ x).bind fun a => match a with
        | .v (.string s) => match (c.argTypes[0]?).bind P.underlying with
          | some .string => some { d := .v (.int .i64 s.size) }
          | _ => none
        | .sl es | .own _ _ es => match (c.argTypes[0]?).bind P.underlying with
          | some (.slice _) => some { d := .v (.int .i64 es.length) }
          | _ => none
        | .bs _ _ _ n => match (c.argTypes[0]?).bind P.underlying with
          | some (.slice _) => some { d := .v (.int .i64 n) }
          | _ => none
        | _ => none
      | _ => none
    | .builtin .append => match c.args.toList, c.argTypes.toList with
      | [x, y], [t, t'] => if t = t' then (ρ x).bind fun a => (ρ y).bind fun b => match norm P t a, P.underlying t with
        | .own e k es, some (.slice e') => (esOf b).bind fun p => (P.info? e).bind fun i =>
          if e = e' ∧ p.all (fun e => e.length == k) = true ∧ i.size = k ∧ 0 < k ∧ (i.zero.map fun z => z.cells.size) = some k ∧ (es.length + p.length) * i.bytes ≤ 140737488355328 ∧ es.length + p.length ≤ maxLen ∧ o.dst.isSome = true then some (appE tk.2 o.dst e k es p (goneOf x a)) else none
        | .slx k es, some (.slice e') => (esOf b).bind fun p => (P.info? e').bind fun i =>
          if es.isEmpty = false ∧ p.isEmpty = false ∧ es.all (fun e => e.length == k) = true ∧ p.all (fun e => e.length == k) = true ∧ i.size = k ∧ 0 < k ∧ (i.zero.map fun z => z.cells.size) = some k ∧ (es.length + p.length) * i.bytes ≤ 140737488355328 ∧ es.length + p.length ≤ maxLen ∧ o.dst.isSome = true then some { d := .own e' k (es ++ p) } else none
        | _, _ => none
        else (ρ x).bind fun a => (ρ y).bind fun b => appS P t t' (norm P t a) b (goneOf x a) o.dst.isSome
      | _, _ => none
    | .builtin .clear => match c.args.toList, c.argTypes.toList with
      | [x], [t] => (ρ x).bind fun a => match a, P.underlying t with
        | .bs b off k n, some (.slice e) => (β b).bind fun cs => (ofZero P e).bind fun z => if z.length = k ∧ z.all one = true ∧ off + (List.replicate n z).flatten.length ≤ cs.length ∧ 0 < n then some { d := .tup [], rd := [b], st := some (b, off, (List.replicate n z).flatten) } else none
        | _, _ => none
      | _, _ => none
    | .builtin .min => (c.args.toList.mapM fun x => (ρ x).bind toV).bind fun vs => (pureRun P (Builtin.min_ c.argTypes o.type vs.toArray)).map fun r => { d := .v r }
    | .builtin .max => (c.args.toList.mapM fun x => (ρ x).bind toV).bind fun vs => (pureRun P (Builtin.max_ c.argTypes o.type vs.toArray)).map fun r => { d := .v r }
    | .value x => (ρ x).bind fun d => (fnOf d).bind fun f => (c.args.toList.mapM fun x => (ρ x).bind fun d => if argA (finA tk.2 d) = true then some (finA tk.2 d) else none).bind fun ds =>
      if (goneA c.args.toList ds).Nodup then
      (reach β 64 ((f.2.1 ++ ds ++ f.2.2).flatMap boxD) []).bind fun L => if L.isEmpty = true then (callD P F f.1 (f.2.1 ++ ds ++ f.2.2)).bind (retE tk.2 o.dst (goneA c.args.toList ds)) else callO P F β f.1 (f.2.1 ++ ds ++ f.2.2) L (goneA c.args.toList ds)
      else none
    | _ => none
  | _ => none

/-! ### What a text makes -/
structure St where
  t : List D
  b : Nat → Option (List D)
def St.at (st : St) (i : Tmp) : D := st.t.getD i .undef
def gD (g : Nat) : D := match tabs g with
  | some cs => .ep cs.length [cs.map .v] 0 0
  | none => .v (.pointer (some ⟨g, 0, none⟩))
def St.rd (st : St) : Operand → Option D
  | .tmp t => match st.at t with
    | .undef => none
    | d => some d
  | .const x => some (.v x)
  | .global g => some (gD g)
  | .func f => some (.v (.func (.func f) #[] #[]))
def St.bx (st : St) (b : Nat) : Option (List D) := st.b b
def updb (b : Nat → Option (List D)) (k : Nat) (x : Option (List D)) : Nat → Option (List D) := fun i => if i = k then x else b i
def St.put (st : St) (dst : Option Tmp) (d : D) : St := match dst with
  | some i => { st with t := st.t.set i d }
  | none => st
def stripAt (t : List D) (i : Nat) : List D := t.modify i strip
/-- the variables behind it -/
def Eff.onb (e : Eff) (b : Nat → Option (List D)) (dst : Option Tmp) : Nat → Option (List D) :=
  let b := match e.box with
    | some cs => updb b (dst.getD 0) (some cs)
    | none => b
  let b := match e.gb with
    | some (k, off) => updb b k ((b k).map fun cs => stripAt cs off)
    | none => b
  let b := match e.st with
    | some (k, off, cs) => updb b k ((b k).map fun old => setCells old off cs)
    | none => b
  e.sets.foldl (fun b p => updb b p.1 (some p.2)) b
def Eff.on (e : Eff) (st : St) (dst : Option Tmp) : St :=
  let t := e.gone.foldl stripAt st.t
  let t := match e.box with
    | some _ => t.map (kill (dst.getD 0))
    | none => t
  let b := match e.box with
    | some _ => fun i => killb (dst.getD 0) (st.b i)
    | none => st.b
  St.put ⟨t, e.onb b dst⟩ dst e.d

/-- is it wanted? -/
def dwant (ops : Array Oper) (o : Oper) (rd : Nat → D) : Option Bool :=
  match o.guard with
  | none => some true
  | some (j, want) => match (ops[j]?).bind (·.dst) with
    | none => some false
    | some i => match rd i with
      | .v (.bool b) => some (b == want)
      | .v _ => some false
      | _ => none
/-- is it hinted that it makes a variable? -/
def hinted (hs : List Tmp) (o : Oper) : Bool := match o.dst with
  | some d => decide (d < HM) && hs.contains d
  | none => false
/-- is it hinted that rights go along? -/
def moved (hs : List Tmp) (o : Oper) : Bool := match o.dst with
  | some d => hs.contains (d + HM)
  | none => false
/-- a region that draws has no other hints -/
def mh (hs : List Tmp) : List Tmp := hs.filter fun h => decide (HM ≤ h)
theorem hinted_mh (hs : List Tmp) (o : Oper) : hinted (mh hs) o = false := by
  unfold hinted mh
  split
  · rename_i d _
    by_cases h : d < HM
    · simp only [h, decide_true, Bool.true_and]
      rw [Bool.eq_false_iff]
      intro e
      rw [List.contains_iff_mem, List.mem_filter] at e
      have := of_decide_eq_true e.2
      exact absurd h (Nat.not_lt.2 this)
    · simp only [h, decide_false, Bool.false_and]
  · rfl
def deff (P : Program) (F : FTy) (hs : List Tmp) (ops : Array Oper) (st : St) (o : Oper) : Option Eff :=
  (dwant ops o st.at).bind fun q => if q then dop P F (takes ops o || moved hs o, hinted hs o) st.rd st.bx o else some { d := .v undef }
def dlist (P : Program) (F : FTy) (hs : List Tmp) (ops : Array Oper) : List Oper → St → Option St
  | [], st => some st
  | o :: l, st => (deff P F hs ops st o).bind fun e => dlist P F hs ops l (e.on st o.dst)
/-- what is touched -/
inductive Res where
  | t (i : Nat) | b (i : Nat)
  deriving DecidableEq
def Eff.W (e : Eff) (dst : Option Tmp) : List Res :=
  dst.toList.map .t ++ e.gone.map .t ++ (if e.box.isSome then [.b (dst.getD 0)] else []) ++ e.gb.toList.map (fun p => .b p.1) ++ e.st.toList.map (fun p => .b p.1) ++ e.sets.map (fun p => .b p.1)
/-- .. but for rights that go out of temporaries -/
def Eff.Wh (e : Eff) (dst : Option Tmp) : List Res :=
  dst.toList.map .t ++ (if e.box.isSome then [.b (dst.getD 0)] else []) ++ e.gb.toList.map (fun p => .b p.1) ++ e.st.toList.map (fun p => .b p.1) ++ e.sets.map (fun p => .b p.1)
/-- what is read there is the same without its rights -/
def softOf (o : Oper) (e : Eff) : List Tmp := match o.op with
  | .extract x _ => if e.gone.isEmpty = true then tmpOf x else []
  | _ => []
def readsOf (ops : Array Oper) (o : Oper) (e : Eff) : List Res :=
  (if (softOf o e).isEmpty = true then (o.op.operands.toList.flatMap tmpOf).map .t else []) ++ ((o.guard.toList.flatMap fun g => ((ops[g.1]?).bind (·.dst)).toList).map .t) ++ e.rd.map .b
/-- the same, without the forgetting of places -/
def Eff.onq (e : Eff) (st : St) (dst : Option Tmp) : St := St.put ⟨e.gone.foldl stripAt st.t, e.onb st.b dst⟩ dst e.d
/-- one behind the other, each told -/
def dtr (P : Program) (F : FTy) (hs : List Tmp) (ops : Array Oper) : List Oper → St → Option (List Eff)
  | [], _ => some []
  | o :: l, st => (deff P F (mh hs) ops st o).bind fun e => (dtr P F hs ops l (e.onq st o.dst)).map (e :: ·)
def waits (o : Oper) (i : Nat) : Bool := o.after.any fun e => Region.binds .any e && e.on == i
def refsE (b : Nat) (e : Eff) : Bool := refs b e.d || (e.box.any fun cs => cs.any (refc b)) || (e.st.any fun p => p.2.2.any (refc b)) || (e.sets.any fun p => p.2.any (refc b))
/-- whoever touches what another one changes waits for it -/
def okPair (ops : Array Oper) (i : Nat) (oi : Oper) (ei : Eff) (oj : Oper) (ej : Eff) : Bool :=
  waits oj i || (((ei.W oi.dst).all fun r => !(readsOf ops oj ej).contains r && !(ej.W oj.dst).contains r) && ((readsOf ops oi ei).all fun r => !(ej.W oj.dst).contains r) && ((softOf oj ej).all fun t => !(ei.Wh oi.dst).contains (.t t)) && (softOf oi ei).all fun t => !(ej.Wh oj.dst).contains (.t t))
def okTr (ops : Array Oper) (l : List ((Oper × Eff) × Nat)) : Bool :=
  l.all fun p => (p.1.1.after.all fun e => !Region.binds .any e || decide (e.on < p.2)) && (p.1.2.box.isNone || p.1.1.dst.isSome) && l.all fun q =>
    (if p.2 < q.2 then okPair ops p.2 p.1.1 p.1.2 q.1.1 q.1.2 else true) && (p.2 == q.2 || p.1.2.box.isNone || !refsE (p.1.1.dst.getD 0) q.1.2 || waits q.1.1 p.2)
/-- does it make a variable? -/
def mkr : Op → Bool
  | .alloc _ | .box _ _ | .makeSlice _ _ _ => true
  | _ => false
def undef1 (st : St) (o : Oper) : St := match (if mkr o.op = true then o.dst else none) with
  | some d => ⟨(st.t.map (kill d)).set d .undef, fun i => killb d (st.b i)⟩
  | none => st
def undefs (ops : Array Oper) (st : St) : St := ops.toList.foldl undef1 st
/-- a variable's slices stay as they are from now on -/
def frD (b : Nat) (cs : List D) : D → D
  | .bs b' off k n => if b' = b then (if off + n * k ≤ cs.length then .sl (chunks k n (cs.drop off)) else .undef) else .bs b' off k n
  | .bp b' off => if b' = b then .ep cs.length [cs] 0 off else .bp b' off
  | .fn f xs ys => if (xs.flatMap box1 ++ ys.flatMap box1).contains b = true then .undef else .fn f xs ys
  | d => d
def frT (b : Nat) (cs : List D) : D → D
  | .agg ds => if (ds.map (frD b cs)).all one = true then .agg (ds.map (frD b cs)) else if ds.any (refc b) then .undef else .agg ds
  | .ag2 ds => if ds.any (refc b) = true then .undef else .ag2 ds
  | .tp2 c r ds => if refs b (.tp2 c r ds) = true then .undef else .tp2 c r ds
  | .tup ds => if refs b (.tup ds) = true then .undef else .tup ds
  | d => frD b cs d
def frB (b : Nat) (cs : List D) (c : Option (List D)) : Option (List D) := c.bind fun ds => if (ds.map (frD b cs)).all oneb = true then some (ds.map (frD b cs)) else none
def freeze (b : Nat) (st : St) : Option St := (st.bx b).bind fun cs => if (cs.map fin1).all data = true ∧ b < OB then some ⟨st.t.map (frT b (cs.map fin1)), fun i => frB b (cs.map fin1) (if i = b then none else st.b i)⟩ else none
/-- .. if it is there -/
def fz1 (b : Nat) (st : St) : Option St := if (st.bx b).isNone = true then some st else freeze b st
def freezes : List Nat → St → Option St
  | [], st => some st
  | b :: l, st => (fz1 b st).bind (freezes l)
/-- the hints' numbers: a region's, a function's end's -/
def hreg (id : Nat) : Nat := 2 * id + 1000000
def hend : Nat := 1000001
/-- .. which result takes its rights along -/
def hmvr : Nat := 999999
/-- .. whose places are variables from an append on -/
def hvar (id : Nat) : Nat := 2 * id + 1000003
def dall (ops : List Oper) (es : List Eff) (st : St) : St := (ops.zip es).foldl (fun s p => p.2.onq s p.1.dst) st
inductive Ex where
  | norm | exit (id : Nat) | ret
def clear (cl : List Tmp) (st : St) : St := { st with t := cl.foldl (fun t i => t.set i .undef) st.t }
def iter (f : St → Option (Ex × St)) (cl : List Tmp) : Nat → St → Option (Ex × St)
  | 0, _ => none
  | n + 1, st => (f (clear cl st)).bind fun r => match r.1 with
    | .norm => iter f cl n r.2
    | _ => some r
def denC (P : Program) (F : FTy) (cl : Nat → List Tmp) : Code → Nat → Nat → St → Option (Ex × St)
  | .skip, _, _, st => some (.norm, st)
  | .region id ops false, _, _, st => (freezes (cl (hreg id)) st).bind fun st => (dlist P F (cl (hvar id)) ops ops.toList st).map fun s => (.norm, s)
  | .region id ops true, _, _, st => (freezes (cl (hreg id)) st).bind fun st => (dtr P F (cl (hvar id)) ops ops.toList (undefs ops st)).bind fun es => if okTr ops (ops.toList.zip es).zipIdx then some (.norm, dall ops.toList es (undefs ops st)) else none
  | .seq a b, bk, n, st => (denC P F cl a bk n st).bind fun r => match r.1 with
    | .norm => denC P F cl b bk n r.2
    | _ => some r
  | .cond c x y, bk, n, st => (st.rd c).bind fun d => match d with
    | .v (.bool q) => if q then denC P F cl x bk n st else denC P F cl y bk n st
    | _ => none
  | .block id c, _, n, st => (denC P F cl c id n st).map fun r => match r.1 with
    | .exit j => if j = id then (.norm, r.2) else r
    | _ => r
  | .loop c, bk, n, st => iter (denC P F cl c bk n) (cl bk) n st
  | .exit id, _, _, st => some (.exit id, st)
  | .ret, _, _, st => some (.ret, st)
  | _, _, _, _ => none
def dres (P : Program) (st : St) : ResultVar → Option D
  | .tmp t => (st.rd (.tmp t))
  | .cell a ty => (st.rd (.tmp a)).bind fun d => match d with
    | .bp b 0 => (st.bx b).bind fun cs => (sizeT P ty).bind fun n => partB P ty n cs 0
    | _ => none
/-- what a call gives back: no variable of its own -/
def okOut (d : D) : Bool := arg d && (boxD d).all fun b => decide (OB ≤ b)
/-- the variables that were handed in, as they are at the end -/
def outs (b : Nat → Option (List D)) : Nat → Nat → Option (List (List D))
  | 0, _ => some []
  | n + 1, i => (b (OB + i)).bind fun cs => if cs.all (fun d => (boxc d).all fun b => decide (OB ≤ b)) = true then (outs b n (i + 1)).map (cs :: ·) else none
/-- a slice in a variable of the call's own goes out as a new block -/
def rawR (st : St) : D → Option D
  | .bs v 0 k m => (st.bx v).bind fun cs => if v < OB ∧ (cs.map fin1).all (fun d => data d && (nobs d && one d)) = true then some (.raw k m (cs.map fin1)) else none
  | _ => none
/-- a result that takes its rights along -/
def okOutA (d : D) : Bool := argA d && (boxD d).all fun b => decide (OB ≤ b)
def dresM (P : Program) (st : St) : ResultVar → Option D
  | .tmp t => (st.rd (.tmp t)).bind fun d => if okOutA (finA true d) = true then some (finA true d) else rawR st d
  | .cell a ty => (st.rd (.tmp a)).bind fun d => match d with
    | .bp b 0 => (st.bx b).bind fun cs => (sizeT P ty).bind fun n => (P.underlying ty).bind fun q => if isAggD q = true ∧ b < OB ∧ n ≤ cs.length ∧ (cs.take n).all one = true ∧ okOutA (.ag2 ((cs.take n).map finW)) = true then some (.ag2 ((cs.take n).map finW)) else none
    | _ => none
def dresAll (P : Program) (rs : List ResultVar) (s : St) (mv : Option Nat) : Option D := match mv, rs with
  | some c, xs => (xs[c]?).bind fun x => (dresM P s x).bind fun r => if xs.length = 1 then some r else
    ((xs.zipIdx).mapM fun p => if p.2 = c then some .undef else (dres P s p.1).bind fun d => if okOut (fin d) = true then some (fin d) else none).map fun ds => .tp2 c r ds
  | none, [x] => (dres P s x).bind fun d => if okOut (fin d) = true then some (finR d) else rawR s d
  | none, xs => (xs.mapM fun x => (dres P s x).bind fun d => if okOut (fin d) = true then some (fin d) else none).map .tup
def denF (P : Program) (F : FTy) (cl : FuncId → Nat → List Tmp) (n : Nat) (f : FuncId) (ds : List D) (os : List (List D)) : Option (D × List (List D)) :=
  (P.funcs[f]?).bind fun fn => fn.body.bind fun c => if ds.length ≤ fn.ntmps then
    (denC P F (cl f) c 0 n ⟨ds ++ List.replicate (fn.ntmps - ds.length) (.v undef), fun i => if i < OB then none else os[i - OB]?⟩).bind fun r => match r.1 with
      | .exit _ => none
      | _ => (freezes (cl f hend) r.2).bind fun st => (dresAll P fn.results.toList st (cl f hmvr).head?).bind fun d => (outs st.b os.length 0).map fun os' => (d, os')
    else none
def denN (P : Program) (cl : FuncId → Nat → List Tmp) (prim : FTy) : Nat → FTy
  | 0, f, ds, os => prim f ds os
  | n + 1, f, ds, os => match prim f ds os with
    | some r => some r
    | none => denF P (denN P cl prim n) cl n f ds os

/-! ### The machine does so -/
inductive Pos where
  | t (i : Nat) | b (k j : Nat)
  deriving DecidableEq
inductive Own where
  | none | box (b : Nat) | at (p : Pos)
  deriving DecidableEq
abbrev OM := Nat → Own

/-- elements that stay, from a place on -/
def Els (Z : FZ) (g o k : Nat) (es : List (List D)) : Prop :=
  (∀ i (hi : i < es.length), (es[i]).length = k) ∧ ∀ i (hi : i < es.length) j (hj : j < (es[i]).length), ∃ y, Z g (o + i * k + j) = some y ∧ Rp Z y (es[i][j])
theorem Els.mono {Z Z' : FZ} {g o k : Nat} {es : List (List D)} (hZ : Z.le Z') (h : Els Z g o k es) : Els Z' g o k es :=
  ⟨h.1, fun i hi j hj => let ⟨y, h1, h2⟩ := h.2 i hi j hj; ⟨y, hZ _ _ _ h1, h2.mono hZ⟩⟩
theorem Els.sl {Z : FZ} {g o k n c : Nat} {es : List (List D)} (h : Els Z g o k es) (hn : n = es.length) (hc : n ≤ c) : Rp Z (.slice (some ⟨g, o, none⟩) n c) (.sl es) := by
  have hx : ∀ i j, ∃ y, ∀ (hi : i < es.length) (hj : j < (es[i]).length), Z g (o + i * k + j) = some y ∧ Rp Z y (es[i][j]) := by
    intro i j
    by_cases hi : i < es.length
    · by_cases hj : j < (es[i]).length
      · obtain ⟨y, hy⟩ := h.2 i hi j hj
        exact ⟨y, fun _ _ => hy⟩
      · exact ⟨undef, fun _ h => absurd h hj⟩
    · exact ⟨undef, fun h => absurd h hi⟩
  refine .sl _ n c k es hn hc ⟨g, o, none⟩ (fun _ => rfl) rfl h.1 (fun i j => (hx i j).choose) (fun i hi j hj => ((hx i j).choose_spec hi hj).1) (fun i hi j hj => ((hx i j).choose_spec hi hj).2)

theorem ep_els {Z : FZ} {x : Value} {k : Nat} {es : List (List D)} {i j : Nat} (h : Rp Z x (.ep k es i j)) : ∃ g o, x = .pointer (some ⟨g, o + i * k + j, none⟩) ∧ Els Z g o k es := by
  cases h with
  | ep g o k es i j hk x hz hr => exact ⟨g, o, rfl, hk, fun i hi j hj => ⟨x i j, hz i hi j hj, hr i hi j hj⟩⟩
theorem Els.ep {Z : FZ} {g o k : Nat} {es : List (List D)} (h : Els Z g o k es) (i j : Nat) : Rp Z (.pointer (some ⟨g, o + i * k + j, none⟩)) (.ep k es i j) := by
  have hx : ∀ i j, ∃ y, ∀ (hi : i < es.length) (hj : j < (es[i]).length), Z g (o + i * k + j) = some y ∧ Rp Z y (es[i][j]) := by
    intro i j
    by_cases hi : i < es.length
    · by_cases hj : j < (es[i]).length
      · obtain ⟨y, hy⟩ := h.2 i hi j hj
        exact ⟨y, fun _ _ => hy⟩
      · exact ⟨undef, fun _ h => absurd h hj⟩
    · exact ⟨undef, fun h => absurd h hi⟩
  exact .ep g o k es i j h.1 (fun i j => (hx i j).choose) (fun i hi j hj => ((hx i j).choose_spec hi hj).1) (fun i hi j hj => ((hx i j).choose_spec hi hj).2)
/-- a block of cells, none of which is shared by a string -/
def Hp (w : World) (g : Nat) (xs : Array Value) (e : TypeId) : Prop := ∃ fr : Nat × Nat, w.heap[g]? = some (.cells xs e fr) ∧ (fr.1 = fr.2 ∨ xs.size ≤ fr.1)
theorem Hp.of0 {w : World} {g : Nat} {xs : Array Value} {e : TypeId} (h : w.heap[g]? = some (.cells xs e (0, 0))) : Hp w g xs e := ⟨_, h, .inl rfl⟩
theorem Hp.cell {w : World} {g : Nat} {xs : Array Value} {e : TypeId} (h : Hp w g xs e) (j : Nat) : w.cell? ⟨g, j, none⟩ = xs[j]? := by
  obtain ⟨fr, h, _⟩ := h
  exact cell_of_row w g j xs e fr h
theorem Hp.free {w : World} {g : Nat} {xs : Array Value} {e : TypeId} (h : Hp w g xs e) (j : Nat) (hj : j < xs.size) : w.frozen? ⟨g, j, none⟩ = false := by
  obtain ⟨⟨lo, hi⟩, h, h2⟩ := h
  unfold World.frozen?
  rw [h]
  simp only [Bool.and_eq_false_iff, decide_eq_false_iff_not]
  simp only at h2
  omega
theorem Hp.at {w w' : World} {g : Nat} {xs : Array Value} {e : TypeId} (h : Hp w g xs e) (hw : w'.heap[g]? = w.heap[g]?) : Hp w' g xs e := by
  obtain ⟨fr, h, h2⟩ := h
  exact ⟨fr, hw.trans h, h2⟩
theorem Hp.set {w : World} {g : Nat} {xs ys : Array Value} {e : TypeId} (h : Hp w g xs e) (hs : ys.size = xs.size) : Hp (w.setRow g ys) g ys e := by
  obtain ⟨fr, h, h2⟩ := h
  exact ⟨fr, setRow_heap w g xs ys e fr h, by rw [hs]; exact h2⟩
theorem Hp.inj {w : World} {g : Nat} {xs ys : Array Value} {e e' : TypeId} (h : Hp w g xs e) (h' : Hp w g ys e') : xs = ys ∧ e = e' := by
  obtain ⟨fr, h, _⟩ := h
  obtain ⟨fr', h', _⟩ := h'
  rw [h] at h'
  simp only [Option.some.injEq, Obj.cells.injEq] at h'
  exact ⟨h'.1, h'.2.1⟩
theorem Hp.lt {w : World} {g : Nat} {xs : Array Value} {e : TypeId} (h : Hp w g xs e) : g < w.heap.size := by
  obtain ⟨fr, h, _⟩ := h
  exact (Array.getElem?_eq_some_iff.1 h).1
def RVs (Z : FZ) (O : OM) (x : Value) : D → Prop
  | .bs b off k n => ∃ g c, O g = .box b ∧ x = .slice (some ⟨g, off, none⟩) n c ∧ n ≤ c
  | .bp b off => ∃ g, O g = .box b ∧ x = .pointer (some ⟨g, off, none⟩)
  | .bz _ => True
  | .slx _ es => Rp Z x (.sl es) ∧ ∃ a n, x = .slice a n n
  | d => Rp Z x d
def RVc (Z : FZ) (O : OM) (x : Value) : D → Prop
  | .fn f ds es => ∃ xs ys : List Value, x = .func (.func f) xs.toArray ys.toArray ∧ xs.length = ds.length ∧ ys.length = es.length ∧ (∀ i (hi : i < ds.length) (hj : i < xs.length), RVs Z O xs[i] ds[i]) ∧ ∀ i (hi : i < es.length) (hj : i < ys.length), RVs Z O ys[i] es[i]
  | d => RVs Z O x d
def RVa (Z : FZ) (O : OM) (x : Value) : D → Prop
  | .agg cs => ∃ xs : List Value, x = .agg xs.toArray ∧ xs.length = cs.length ∧ ∀ i (hi : i < cs.length) (hj : i < xs.length), RVc Z O xs[i] cs[i]
  | d => RVc Z O x d
def OwnV (Z : FZ) (O : OM) (w : World) (p : Pos) (x : Value) (e : TypeId) (k : Nat) (es : List (List D)) : Prop :=
  (es = [] ∧ x = .slice none 0 0) ∨ ∃ g c cur, x = .slice (some ⟨g, 0, none⟩) es.length c ∧ O g = .at p ∧ Hp w g cur e ∧ es.length ≤ c ∧ c ≤ maxLen ∧ cur.size = c * k ∧ Els Z g 0 k es ∧ ∀ o, es.length * k ≤ o → Z g o = none
def RawV (Z : FZ) (O : OM) (w : World) (p : Pos) (x : Value) (k m : Nat) (cs : List D) : Prop :=
  ∃ g c xs e, x = .slice (some ⟨g, 0, none⟩) m c ∧ m ≤ c ∧ O g = .at p ∧ Hp w g xs e ∧ cs.length ≤ xs.size ∧ (∀ j (h : j < cs.length) (h' : j < xs.size), Rp Z xs[j] cs[j] ∧ xs[j].oneCell' = true) ∧ (∀ o, Z g o = none) ∧ (cs.all fun d => nobs d && one d) = true
/-- a part among which slices of the call's own may be -/
def RVw (Z : FZ) (O : OM) (w : World) (p : Pos) (x : Value) : D → Prop
  | .own e k es => OwnV Z O w p x e k es
  | d => RVc Z O x d
/-- the slices of the call's own are in blocks apart -/
def Apart (xs : List Value) (cs : List D) : Prop := ∀ i j (hi : i < cs.length) (hj : j < cs.length) (hi' : i < xs.length) (hj' : j < xs.length), i ≠ j → isOwn cs[i] = true → isOwn cs[j] = true → ∀ ad n c ad' n' c', xs[i] = .slice (some ad) n c → xs[j] = .slice (some ad') n' c' → ad.block ≠ ad'.block
def Ag2V (Z : FZ) (O : OM) (w : World) (p : Pos) (x : Value) (cs : List D) : Prop :=
  ∃ xs : List Value, x = .agg xs.toArray ∧ xs.length = cs.length ∧ (∀ i (hi : i < cs.length) (hj : i < xs.length), RVw Z O w p xs[i] cs[i]) ∧ Apart xs cs
/-- a result among several -/
def RVg (Z : FZ) (O : OM) (w : World) (p : Pos) (x : Value) : D → Prop
  | .undef => True
  | .raw k m cs => RawV Z O w p x k m cs
  | .own e k es => OwnV Z O w p x e k es
  | .ag2 cs => Ag2V Z O w p x cs
  | d => RVa Z O x d
def Tp2V (Z : FZ) (O : OM) (w : World) (p : Pos) (x : Value) (c : Nat) (r : D) (ds : List D) : Prop :=
  ∃ xs : List Value, x = .tuple xs.toArray ∧ xs.length = ds.length ∧ (∀ i (hi : i < ds.length) (hj : i < xs.length), i ≠ c → RVa Z O xs[i] ds[i]) ∧ ∀ hj : c < xs.length, RVg Z O w p xs[c] r
def RV (Z : FZ) (O : OM) (w : World) (p : Pos) (x : Value) : D → Prop
  | .ag2 cs => Ag2V Z O w p x cs
  | .tp2 c r ds => Tp2V Z O w p x c r ds
  | .undef => True
  | .raw _ _ _ => True
  | .own e k es => (es = [] ∧ x = .slice none 0 0) ∨ ∃ g c cur, x = .slice (some ⟨g, 0, none⟩) es.length c ∧ O g = .at p ∧ Hp w g cur e ∧ es.length ≤ c ∧ c ≤ maxLen ∧ cur.size = c * k ∧ Els Z g 0 k es ∧ ∀ o, es.length * k ≤ o → Z g o = none
  | .tup ds => ∃ xs : List Value, x = .tuple xs.toArray ∧ xs.length = ds.length ∧ ∀ i (hi : i < ds.length) (hj : i < xs.length), RVa Z O xs[i] ds[i]
  | d => RVa Z O x d

/-- a result: .. or a slice in a block of the call's own, of which nothing is claimed -/
def RVr (Z : FZ) (O : OM) (w : World) (p : Pos) (x : Value) : D → Prop
  | .raw k m cs => ∃ g c xs e, x = .slice (some ⟨g, 0, none⟩) m c ∧ m ≤ c ∧ O g = .at p ∧ Hp w g xs e ∧ cs.length ≤ xs.size ∧ (∀ j (h : j < cs.length) (h' : j < xs.size), Rp Z xs[j] cs[j] ∧ xs[j].oneCell' = true) ∧ (∀ o, Z g o = none) ∧ (cs.all fun d => nobs d && one d) = true
  | d => RV Z O w p x d
theorem RVr.rv {Z : FZ} {O : OM} {w : World} {p : Pos} {x : Value} {d : D} (h : RVr Z O w p x d) : RV Z O w p x d := by
  cases d <;> first | exact h | trivial
theorem RVr.of {Z : FZ} {O : OM} {w : World} {p : Pos} {x : Value} {d : D} (h : RV Z O w p x d) (hd : ∀ k m cs, d ≠ .raw k m cs) : RVr Z O w p x d := by
  cases d <;> first | exact h | exact absurd rfl (hd _ _ _)
/-- what is known of a variable's block, beyond its cells -/
structure bok (g : Nat) (xs : Array Value) (e : TypeId) (cs : List D) : Prop where
  one : cs.all oneb = true
  ty : ∀ T r, cs = .bz T :: r → e = T ∧ xs.size = cs.length ∧ (xs[0]? = some (.pointer none) ∨ xs[0]? = some (.pointer (some ⟨g, 0, none⟩)))
theorem bok.of {g : Nat} {xs : Array Value} {e : TypeId} {cs : List D} (h : cs.all Eng.one = true) : bok g xs e cs := ⟨all_oneb h, fun T r hc => by subst hc; simp [Eng.one] at h⟩
theorem bok.mem {g : Nat} {xs : Array Value} {e : TypeId} {cs : List D} (h : bok g xs e cs) {d : D} (hd : d ∈ cs) : oneb d = true := List.all_eq_true.1 h.one d hd
theorem oneb_strip {d : D} (h : oneb d = true) : oneb (strip d) = true := by
  cases d <;> first | exact h | rfl
theorem strip_bz {d : D} {T : TypeId} (h : strip d = .bz T) : d = .bz T := by cases d <;> first | exact h | cases h
theorem bok.strip {g : Nat} {xs : Array Value} {e : TypeId} {cs : List D} {i : Nat} (h : bok g xs e cs) : bok g xs e (stripAt cs i) := by
  refine ⟨List.all_eq_true.2 fun d hd => ?_, fun T r hc => ?_⟩
  · rw [List.mem_iff_getElem] at hd
    obtain ⟨j, hj, rfl⟩ := hd
    simp only [stripAt, List.getElem_modify]
    split
    · exact oneb_strip (h.mem (List.getElem_mem _))
    · exact h.mem (List.getElem_mem _)
  · cases cs with
    | nil => simp [stripAt] at hc
    | cons d l =>
      have hl : (stripAt (d :: l) i).length = (d :: l).length := by simp [stripAt]
      rw [hl]
      have : ∃ r', d = .bz T ∧ l = r' := by
        refine ⟨l, ?_, rfl⟩
        cases i with
        | zero => simp only [stripAt, List.modify_zero_cons] at hc; injection hc with h1 _; exact strip_bz h1
        | succ i => simp only [stripAt, List.modify_succ_cons] at hc; injection hc
      obtain ⟨r', rfl, rfl⟩ := this
      exact h.ty T l rfl
theorem bok.set {g : Nat} {xs : Array Value} {e : TypeId} {cs ds : List D} {vs : List Value} {off : Nat} (h : bok g xs e cs) (h1 : ds.all Eng.one = true) (hl : vs.length = ds.length) (hle : off + ds.length ≤ cs.length) (hx : cs.length ≤ xs.size) :
    bok g (xs.toList.take off ++ vs ++ xs.toList.drop (off + vs.length)).toArray e (setCells cs off ds) := by
  refine ⟨List.all_eq_true.2 fun d hd => ?_, fun T r hc => ?_⟩
  · simp only [setCells, List.mem_append] at hd
    rcases hd with (hd | hd) | hd
    · exact h.mem (List.mem_of_mem_take hd)
    · exact one_oneb (List.all_eq_true.1 h1 d hd)
    · exact h.mem (List.mem_of_mem_drop hd)
  · have hsz : (xs.toList.take off ++ vs ++ xs.toList.drop (off + vs.length)).toArray.size = xs.size := by
      simp only [List.size_toArray, List.length_append, List.length_take, List.length_drop, Array.length_toList]; omega
    have hcl : (setCells cs off ds).length = cs.length := by
      simp only [setCells, List.length_append, List.length_take, List.length_drop]; omega
    rw [hsz, hcl]
    cases off with
    | zero =>
      cases ds with
      | nil =>
        have hv : vs = [] := List.eq_nil_of_length_eq_zero (by simpa using hl)
        subst hv
        simp only [setCells, List.take_zero, List.nil_append, List.length_nil, Nat.zero_add, List.drop_zero, Array.toArray_toList] at hc ⊢
        exact h.ty T r hc
      | cons d ds =>
        simp only [setCells, List.take_zero, List.nil_append, List.cons_append] at hc
        injection hc with hd _
        rw [List.all_cons, hd] at h1
        simp [Eng.one] at h1
    | succ n =>
      cases cs with
      | nil => simp at hle
      | cons c l =>
        simp only [setCells, List.take_succ_cons, List.cons_append] at hc
        injection hc with hd _
        subst hd
        obtain ⟨q1, q2, q3⟩ := h.ty T l rfl
        refine ⟨q1, q2, ?_⟩
        have hx0 : 0 < xs.size := by rw [q2]; simp
        have : (xs.toList.take (n + 1) ++ vs ++ xs.toList.drop (n + 1 + vs.length)).toArray[0]? = xs[0]? := by
          rw [List.getElem?_toArray, List.append_assoc, List.getElem?_append_left (by rw [List.length_take, Array.length_toList]; omega), List.getElem?_take_of_lt (by omega), Array.getElem?_toList]
        rw [this]
        exact q3
theorem renc_bz (m : Nat → Nat) {d : D} {T : TypeId} (h : renc m d = .bz T) : d = .bz T := by cases d <;> first | exact h | cases h
theorem renc_oneb (m : Nat → Nat) (d : D) : oneb (renc m d) = oneb d := by cases d <;> rfl
theorem bok.ren {g : Nat} {xs : Array Value} {e : TypeId} {cs : List D} (m : Nat → Nat) (h : bok g xs e cs) : bok g xs e (cs.map (renc m)) := by
  refine ⟨List.all_eq_true.2 fun d hd => ?_, fun T r hc => ?_⟩
  · obtain ⟨d', hd', rfl⟩ := List.mem_map.1 hd
    rw [renc_oneb]; exact h.mem hd'
  · cases cs with
    | nil => cases hc
    | cons c l =>
      rw [List.map_cons] at hc
      injection hc with hd _
      have := renc_bz m hd
      subst this
      rw [List.length_map]
      exact h.ty T l rfl
theorem frD_bz {b : Nat} {cs : List D} {d : D} {T : TypeId} (h : frD b cs d = .bz T) : d = .bz T := by
  cases d with
  | bz => exact h
  | bs b' off k n =>
    simp only [frD] at h
    repeat' (first | cases h | split at h)
  | bp b' off =>
    simp only [frD] at h
    repeat' (first | cases h | split at h)
  | fn f xs ys =>
    simp only [frD] at h
    repeat' (first | cases h | split at h)
  | _ => cases h
theorem bok.fr {g : Nat} {xs : Array Value} {e : TypeId} {cs ds : List D} {b : Nat} (h : bok g xs e cs) (ho : (cs.map (frD b ds)).all oneb = true) : bok g xs e (cs.map (frD b ds)) := by
  refine ⟨ho, fun T r hc => ?_⟩
  cases cs with
  | nil => cases hc
  | cons c l =>
    rw [List.map_cons] at hc
    injection hc with hd _
    have := frD_bz hd
    subst this
    rw [List.length_map]
    exact h.ty T l rfl
theorem bzc_len (t : TypeId) (cs : List D) : (bzc t cs).length = cs.length := by
  unfold bzc
  split
  · split <;> simp
  · rfl
theorem bzc_get (t : TypeId) (cs : List D) (j : Nat) (h : j < (bzc t cs).length) (h' : j < cs.length) : (bzc t cs)[j] = .bz t ∨ (bzc t cs)[j] = cs[j] := by
  have key : ∀ c, (bzc t cs)[j]? = some c → c = .bz t ∨ some c = cs[j]? := fun c hc => by
    unfold bzc at hc
    split at hc
    · split at hc
      · cases j with
        | zero => simp only [List.getElem?_cons_zero, Option.some.injEq] at hc; exact .inl hc.symm
        | succ j => simp only [List.getElem?_cons_succ] at hc ⊢; exact .inr hc.symm
      · exact .inr hc.symm
    · exact .inr hc.symm
  rcases key _ (List.getElem?_eq_getElem h) with h1 | h1
  · exact .inl h1
  · rw [List.getElem?_eq_getElem h'] at h1
    exact .inr (by injection h1)
theorem bzc_any (t : TypeId) (cs : List D) (b : Nat) (h : cs.any (refc b) = false) : (bzc t cs).any (refc b) = false := by
  unfold bzc
  split
  · split
    · rw [List.any_cons] at h ⊢
      simp only [Bool.or_eq_false_iff] at h ⊢
      exact ⟨rfl, h.2⟩
    · exact h
  · exact h
theorem bok.bzc {g : Nat} {xs : Array Value} {t : TypeId} {cs : List D} (h : cs.all Eng.one = true) (hx : xs.size = cs.length) (h0 : ∀ r, cs = .v (.pointer none) :: r → xs[0]? = some (.pointer none)) : bok g xs t (Eng.bzc t cs) := by
  unfold Eng.bzc
  split
  · split
    · rename_i r
      refine ⟨?_, fun T r' hc => ?_⟩
      · rw [List.all_cons] at h ⊢
        simp only [Bool.and_eq_true] at h ⊢
        exact ⟨rfl, all_oneb h.2⟩
      · injection hc with h1 _
        injection h1 with h1
        exact ⟨h1, by simpa using hx, .inl (h0 r rfl)⟩
    · exact bok.of h
  · exact bok.of h
/-- a variable of the call's own -/
def BV (Z : FZ) (O : OM) (w : World) (b : Nat) (cs : List D) : Prop :=
  ∃ g xs e, O g = .box b ∧ Hp w g xs e ∧ cs.length ≤ xs.size ∧ (∀ j (h : j < cs.length) (h' : j < xs.size), RV Z O w (.b b j) xs[j] cs[j] ∧ xs[j].oneCell' = true) ∧ (∀ o, Z g o = none) ∧ bok g xs e cs

/-- where a call began: its world, what it may touch there, the variables that were handed in -/
def Gks (w : World) : Prop := ∀ g, g ∈ gids → ∃ cs e fr, w.heap[g]? = some (.cells cs e fr) ∧ gok g cs
structure Base where
  w : World
  M : Nat → Prop
  O : OM
  hM : ∀ g, w.heap.size ≤ g → M g
  ol : ∀ g b, O g = .box b → OB ≤ b
  gk : Gks w
  gm : ∀ g, g ∈ gids → ¬ M g
structure BelowB (w0 : Base) (w : World) : Prop where
  os : w.os = w0.w.os
  tape : w.tape = w0.w.tape
  output : w.output = w0.w.output
  size : w0.w.heap.size ≤ w.heap.size
  block : ∀ k, ¬ w0.M k → w.heap[k]? = w0.w.heap[k]?
theorem BelowB.old {w0 : Base} {w : World} (h : BelowB w0 w) {k : Nat} (hk : ¬ w0.M k) : k < w.heap.size := by
  have : k < w0.w.heap.size := by
    rcases Nat.lt_or_ge k w0.w.heap.size with h1 | h1
    · exact h1
    · exact absurd (w0.hM k h1) hk
  exact Nat.lt_of_lt_of_le this h.size
theorem BelowB.gks {w0 : Base} {w : World} (h : BelowB w0 w) : Gks w := fun g hg => by
  obtain ⟨cs, e, fr, h1, h2⟩ := w0.gk g hg
  exact ⟨cs, e, fr, (h.block g (w0.gm g hg)).trans h1, h2⟩
theorem BelowB.alloc {w0 : Base} {w : World} (h : BelowB w0 w) (ob : Obj) : BelowB w0 (w.alloc ob) where
  os := h.os
  tape := h.tape
  output := h.output
  size := Nat.le_trans h.size (by simp)
  block := fun k hk => (heap_alloc_old w ob k (h.old hk)).trans (h.block k hk)
theorem BelowB.grown {w0 : Base} {w w' : World} {g : Nat} (h : BelowB w0 w) (hg : w.grownBy w' (some g)) (hm : w0.M g) : BelowB w0 w' where
  os := hg.os.trans h.os
  tape := hg.tape.trans h.tape
  output := hg.output.trans h.output
  size := Nat.le_trans h.size hg.size
  block := fun k hk => (hg.block k (h.old hk) (fun e => by simp only [Option.some.injEq] at e; subst e; exact hk hm)).trans (h.block k hk)
theorem BelowB.drew {w0 : Base} {w : World} (h : BelowB w0 w) : BelowB w0 w.drew := ⟨h.os, h.tape, h.output, h.size, h.block⟩

structure Inv (Z0 : FZ) (w0 : Base) (Z : FZ) (O : OM) (st : St) (a : Act) (w : World) : Prop where
  tsz : a.tmps.size = st.t.length
  tv : ∀ i (h : i < st.t.length) (h' : i < a.tmps.size), RV Z O w (.t i) a.tmps[i] st.t[i]
  bv : ∀ b cs, st.bx b = some cs → BV Z O w b cs
  uq : ∀ g g' b, O g = .box b → O g' = .box b → g = g'
  ob : ∀ g, O g ≠ .none → w0.M g ∧ g < w.heap.size
  ag : Agree Z w
  bl : BelowB w0 w
  df : a.defers = []
  zn : ∀ b o x, Z b o = some x → Z0 b o = some x ∨ w0.M b
  bs : Bs Z
  oi : ∀ g b, w0.O g = .box b → O g = .box b
  oo : ∀ g b, O g = .box b → OB ≤ b → w0.O g = .box b

theorem nil_rp {Z : FZ} : Rp Z (.slice none 0 0) (.sl []) := .sl none 0 0 0 [] rfl (Nat.le_refl _) ⟨0, 0, none⟩ (fun h => absurd h (Nat.lt_irrefl _)) rfl (fun i hi => absurd hi (Nat.not_lt_zero _)) (fun _ _ => undef) (fun i hi => absurd hi (Nat.not_lt_zero _)) (fun i hi => absurd hi (Nat.not_lt_zero _))
theorem OwnV.rp {Z : FZ} {O : OM} {w : World} {p : Pos} {x : Value} {e : TypeId} {k : Nat} {es : List (List D)} (h : OwnV Z O w p x e k es) : Rp Z x (.sl es) := by
  rcases h with ⟨rfl, rfl⟩ | ⟨g, c, cur, rfl, _, _, hc, _, _, hE, _⟩
  · exact nil_rp
  · exact hE.sl rfl hc
theorem RVw.strip1 {Z : FZ} {O : OM} {w : World} {p : Pos} {x : Value} {d : D} (h : RVw Z O w p x d) : RVc Z O x (strip1 d) := by
  cases d with
  | own e k es => exact OwnV.rp h
  | _ => exact h
theorem Ag2V.agg {Z : FZ} {O : OM} {w : World} {p : Pos} {x : Value} {cs : List D} (h : Ag2V Z O w p x cs) : RVa Z O x (.agg (cs.map strip1)) := by
  obtain ⟨xs, h1, h2, h3, _⟩ := h
  refine ⟨xs, h1, by rw [List.length_map]; exact h2, fun i hi hj => ?_⟩
  rw [List.getElem_map]
  exact (h3 i (by rw [List.length_map] at hi; exact hi) hj).strip1
theorem RVg.stripR {Z : FZ} {O : OM} {w : World} {p : Pos} {x : Value} {d : D} (h : RVg Z O w p x d) : RVg Z O w p x (stripR d) := by
  cases d with
  | own e k es => exact OwnV.rp h
  | ag2 cs => exact Ag2V.agg h
  | raw => trivial
  | _ => exact h
theorem RV.strip {Z : FZ} {O : OM} {w : World} {p : Pos} {x : Value} {d : D} (h : RV Z O w p x d) : RV Z O w p x (strip d) := by
  cases d with
  | own e k es =>
    rcases h with ⟨rfl, rfl⟩ | ⟨g, c, cur, rfl, _, _, hc, _, _, hE, _⟩
    · exact nil_rp
    · exact hE.sl rfl hc
  | slx k es => exact h.1
  | ag2 cs => exact Ag2V.agg h
  | tp2 c r ds =>
    obtain ⟨xs, h1, h2, h3, h4⟩ := h
    exact ⟨xs, h1, h2, h3, fun hj => (h4 hj).stripR⟩
  | _ => exact h
theorem RV.stripO {Z : FZ} {O : OM} {w : World} {p : Pos} {x : Value} {d : D} (h : RV Z O w p x d) : RV Z O w p x (stripO d) := by
  cases d with
  | own e k es => exact h.strip
  | ag2 cs => exact Ag2V.agg h
  | _ => exact h
theorem RVc.fin1 {Z : FZ} {O : OM} {x : Value} {d : D} (h : RVc Z O x d) : RVc Z O x (fin1 d) := by
  unfold Eng.fin1
  split
  · cases h
  · exact h.1
  · have hx : x = .slice none 0 0 := by cases h; rfl
    subst hx
    exact nil_rp
  · exact h
theorem RVc.nobs {Z : FZ} {O : OM} {x : Value} {d : D} (h : RVc Z O x d) (hd : nobs d = true) : Rp Z x d := by
  cases d <;> first | exact h | simp [Eng.nobs] at hd
theorem RVs.ofRp {Z : FZ} {O : OM} {x : Value} {d : D} (h : Rp Z x d) : RVs Z O x d := by
  cases d <;> first | exact h | cases h
theorem RVc.ofRp {Z : FZ} {O : OM} {x : Value} {d : D} (h : Rp Z x d) : RVc Z O x d := by
  cases d with
  | fn => cases h
  | _ => exact RVs.ofRp (O := O) h
theorem RVa.ofRp {Z : FZ} {O : OM} {x : Value} {d : D} (h : Rp Z x d) : RVa Z O x d := by
  cases d with
  | agg cs => cases h with | agg xs _ hl h => exact ⟨xs, rfl, hl, fun i hi hj => RVc.ofRp (h i hi hj)⟩
  | _ => exact RVc.ofRp (O := O) h
theorem RVs.ren {Z Z' : FZ} {O O' : OM} {x : Value} {d : D} {m : Nat → Nat} (h : RVs Z O x d) (hZ : Z.le Z') (hb : ∀ g b, b ∈ box1 d → O g = .box b → O' g = .box (m b)) : RVs Z' O' x (ren1 m d) := by
  cases d with
  | bs b off k n => obtain ⟨g, c, h1, h2⟩ := h; exact ⟨g, c, hb g b (by simp [box1]) h1, h2⟩
  | bp b off => obtain ⟨g, h1, h2⟩ := h; exact ⟨g, hb g b (by simp [box1]) h1, h2⟩
  | bz _ => trivial
  | slx k es => exact ⟨Rp.mono hZ h.1, h.2⟩
  | _ => exact RVs.ofRp (Rp.mono hZ h)
theorem RVc.ren {Z Z' : FZ} {O O' : OM} {x : Value} {d : D} {m : Nat → Nat} (h : RVc Z O x d) (hZ : Z.le Z') (hb : ∀ g b, b ∈ boxc d → O g = .box b → O' g = .box (m b)) : RVc Z' O' x (renc m d) := by
  cases d with
  | fn f ds es =>
    obtain ⟨xs, ys, h1, h2, h3, h4, h5⟩ := h
    refine ⟨xs, ys, h1, by simpa using h2, by simpa using h3, fun i hi hj => ?_, fun i hi hj => ?_⟩
    · have hi' : i < ds.length := by simpa using hi
      rw [List.getElem_map]
      exact (h4 i hi' hj).ren hZ fun g b hb' => hb g b (by simp only [boxc, List.mem_append, List.mem_flatMap]; exact .inl ⟨_, List.getElem_mem hi', hb'⟩)
    · have hi' : i < es.length := by simpa using hi
      rw [List.getElem_map]
      exact (h5 i hi' hj).ren hZ fun g b hb' => hb g b (by simp only [boxc, List.mem_append, List.mem_flatMap]; exact .inr ⟨_, List.getElem_mem hi', hb'⟩)
  | bs b off k n => exact RVs.ren (d := .bs b off k n) h hZ hb
  | bp b off => exact RVs.ren (d := .bp b off) h hZ hb
  | bz _ => trivial
  | slx k es => exact RVs.ren (d := .slx k es) h hZ hb
  | _ => exact RVc.ofRp (Rp.mono hZ h)
theorem RVa.ren {Z Z' : FZ} {O O' : OM} {x : Value} {d : D} {m : Nat → Nat} (h : RVa Z O x d) (hZ : Z.le Z') (hb : ∀ g b, b ∈ boxa d → O g = .box b → O' g = .box (m b)) : RVa Z' O' x (rena m d) := by
  cases d with
  | agg cs =>
    obtain ⟨xs, h1, h2, h3⟩ := h
    refine ⟨xs, h1, by simpa using h2, fun i hi hj => ?_⟩
    have hi' : i < cs.length := by simpa using hi
    rw [List.getElem_map]
    exact (h3 i hi' hj).ren hZ fun g b hb' => hb g b (by simp only [boxa, List.mem_flatMap]; exact ⟨_, List.getElem_mem hi', hb'⟩)
  | fn f ds es => exact RVc.ren (d := .fn f ds es) h hZ hb
  | bs b off k n => exact RVc.ren (d := .bs b off k n) h hZ hb
  | bp b off => exact RVc.ren (d := .bp b off) h hZ hb
  | bz _ => trivial
  | slx k es => exact RVc.ren (d := .slx k es) h hZ hb
  | ag2 _ => cases h
  | _ => exact RVa.ofRp (Rp.mono hZ h)
theorem ren1_id (d : D) : ren1 (fun b => b) d = d := by cases d <;> rfl
theorem map_id_of {f : D → D} (h : ∀ d, f d = d) (l : List D) : l.map f = l := by rw [show f = id from funext h, List.map_id]
theorem renc_id (d : D) : renc (fun b => b) d = d := by
  cases d with
  | fn f xs ys => simp only [renc, map_id_of ren1_id]
  | _ => rfl
theorem rena_id (d : D) : rena (fun b => b) d = d := by
  cases d with
  | agg cs => simp only [rena, map_id_of renc_id]
  | ag2 cs => simp only [rena, map_id_of renc_id]
  | fn f xs ys => exact renc_id (.fn f xs ys)
  | _ => rfl
theorem RVs.moveB {Z Z' : FZ} {O O' : OM} {x : Value} {d : D} (h : RVs Z O x d) (hZ : Z.le Z') (hb : ∀ g b, b ∈ box1 d → O g = .box b → O' g = .box b) : RVs Z' O' x d := by
  have := h.ren (m := fun b => b) hZ hb
  rwa [ren1_id] at this
theorem RVc.moveB {Z Z' : FZ} {O O' : OM} {x : Value} {d : D} (h : RVc Z O x d) (hZ : Z.le Z') (hb : ∀ g b, b ∈ boxc d → O g = .box b → O' g = .box b) : RVc Z' O' x d := by
  have := h.ren (m := fun b => b) hZ hb
  rwa [renc_id] at this
theorem RVa.moveB {Z Z' : FZ} {O O' : OM} {x : Value} {d : D} (h : RVa Z O x d) (hZ : Z.le Z') (hb : ∀ g b, b ∈ boxa d → O g = .box b → O' g = .box b) : RVa Z' O' x d := by
  have := h.ren (m := fun b => b) hZ hb
  rwa [rena_id] at this
theorem RVc.move {Z Z' : FZ} {O O' : OM} {x : Value} {d : D} (h : RVc Z O x d) (hZ : Z.le Z') (hb : ∀ g b, O g = .box b → O' g = .box b) : RVc Z' O' x d := h.moveB hZ fun g b _ => hb g b
theorem RV.fin1 {Z : FZ} {O : OM} {w : World} {p : Pos} {x : Value} {d : D} (h : RV Z O w p x d) : RV Z O w p x (fin1 d) := by
  unfold Eng.fin1
  split
  · exact h.strip
  · exact h.strip
  · have hx : x = .slice none 0 0 := by cases h; rfl
    subst hx
    exact nil_rp
  · exact h
theorem RV.fin {Z : FZ} {O : OM} {w : World} {p : Pos} {x : Value} {d : D} (h : RV Z O w p x d) : RV Z O w p x (fin d) := by
  unfold Eng.fin
  split
  · obtain ⟨xs, rfl, hl, hc⟩ := h
    refine ⟨xs, rfl, by rw [List.length_map]; exact hl, fun i hi hj => ?_⟩
    rw [List.getElem_map]
    exact (hc i (by rw [List.length_map] at hi; exact hi) hj).fin1
  · exact h.fin1
theorem RV.data {Z : FZ} {O : OM} {w : World} {p : Pos} {x : Value} {d : D} (h : RV Z O w p x d) (hd : data d = true) : Rp Z x d := by
  cases d with
  | agg cs =>
    obtain ⟨xs, rfl, hl, hc⟩ := h
    exact .agg xs cs hl fun i hi hj => (hc i hi hj).nobs (List.all_eq_true.1 hd _ (List.getElem_mem hi))
  | v _ => exact h
  | sl _ => exact h
  | ep _ _ _ _ => exact h
  | nn => exact h
  | _ => simp [Eng.data] at hd
theorem RV.arg {Z : FZ} {O : OM} {w : World} {p : Pos} {x : Value} {d : D} (h : RV Z O w p x d) (hd : arg d = true) : RVa Z O x d := by
  cases d <;> first | exact h | simp [Eng.arg] at hd
theorem RVa.rv {Z : FZ} {O : OM} {w : World} {p : Pos} {x : Value} {d : D} (h : RVa Z O x d) : RV Z O w p x d := by
  cases d with
  | tup ds => cases h with | tup xs _ hl h => exact ⟨xs, rfl, hl, fun i hi hj => RVa.ofRp (h i hi hj)⟩
  | undef => trivial
  | raw => trivial
  | own => cases h
  | ag2 => cases h
  | tp2 => cases h
  | _ => exact h
theorem RV.ofRp {Z : FZ} {O : OM} {w : World} {p : Pos} {x : Value} {d : D} (h : Rp Z x d) : RV Z O w p x d := (RVa.ofRp h).rv
theorem RVc.rva {Z : FZ} {O : OM} {x : Value} {d : D} (h : RVc Z O x d) : RVa Z O x d := by
  cases d with
  | agg _ => exact RVa.ofRp h
  | _ => exact h
theorem RVc.rv {Z : FZ} {O : OM} {w : World} {p : Pos} {x : Value} {d : D} (h : RVc Z O x d) : RV Z O w p x d := h.rva.rv
theorem RVs.rvc {Z : FZ} {O : OM} {x : Value} {d : D} (h : RVs Z O x d) : RVc Z O x d := by
  cases d with
  | fn => cases h
  | _ => exact h
theorem toV_data {d : D} {y : Value} (h : toV d = some y) : data d = true := by
  have key : ∀ (cs : List D) (l : List Value), toV.go cs = some l → cs.all nobs = true := by
    intro cs
    induction cs with
    | nil => intro l _; rfl
    | cons d cs ih =>
      intro l h
      cases d with
      | v x =>
        simp only [toV.go, Option.map_eq_some_iff] at h
        obtain ⟨l', h', _⟩ := h
        rw [List.all_cons, ih l' h']; rfl
      | _ => simp [toV.go] at h
  cases d with
  | agg cs =>
    simp only [toV, Option.map_eq_some_iff] at h
    obtain ⟨l, h', _⟩ := h
    exact key cs l h'
  | v _ => rfl
  | _ => simp [toV] at h
theorem RV.toV {Z : FZ} {O : OM} {w : World} {p : Pos} {x y : Value} {d : D} (h : RV Z O w p x d) (hd : toV d = some y) : x = y :=
  toV_rp hd (h.data (toV_data hd))
/-- other positions, other owners, a later world -/
theorem OwnV.mv {Z Z' : FZ} {O O' : OM} {w w' : World} {p p' : Pos} {x : Value} {e : TypeId} {k : Nat} {es : List (List D)} (h : OwnV Z O w p x e k es) (hZ : Z.le Z')
    (ho : ∀ g, O g = .at p → O' g = .at p' ∧ w'.heap[g]? = w.heap[g]? ∧ ∀ o, Z g o = none → Z' g o = none) : OwnV Z' O' w' p' x e k es := by
  rcases h with h | ⟨g, c, cur, h1, h2, h3, h4, h5, h6, h7, h8⟩
  · exact .inl h
  · obtain ⟨q1, q2, q3⟩ := ho g h2
    exact .inr ⟨g, c, cur, h1, q1, h3.at q2, h4, h5, h6, h7.mono hZ, fun o ho => q3 o (h8 o ho)⟩
theorem RawV.mv {Z Z' : FZ} {O O' : OM} {w w' : World} {p p' : Pos} {x : Value} {k m : Nat} {cs : List D} (h : RawV Z O w p x k m cs) (hZ : Z.le Z')
    (ho : ∀ g, O g = .at p → O' g = .at p' ∧ w'.heap[g]? = w.heap[g]? ∧ ∀ o, Z g o = none → Z' g o = none) : RawV Z' O' w' p' x k m cs := by
  obtain ⟨g, c, xs, e, h1, h2, h3, h4, h5, h6, h7, h8⟩ := h
  obtain ⟨q1, q2, q3⟩ := ho g h3
  exact ⟨g, c, xs, e, h1, h2, q1, h4.at q2, h5, fun j a b => ⟨(h6 j a b).1.mono hZ, (h6 j a b).2⟩, fun o => q3 o (h7 o), h8⟩
theorem RVw.ren {Z Z' : FZ} {O O' : OM} {w w' : World} {p p' : Pos} {x : Value} {d : D} {m : Nat → Nat} (h : RVw Z O w p x d) (hZ : Z.le Z') (hb : ∀ g b, b ∈ boxc d → O g = .box b → O' g = .box (m b))
    (ho : isOwn d = true → ∀ g, O g = .at p → O' g = .at p' ∧ w'.heap[g]? = w.heap[g]? ∧ ∀ o, Z g o = none → Z' g o = none) : RVw Z' O' w' p' x (renc m d) := by
  cases d with
  | own e k es => exact OwnV.mv h hZ (ho rfl)
  | fn f ds es => exact RVc.ren (d := .fn f ds es) h hZ hb
  | bs b off k n => exact RVc.ren (d := .bs b off k n) h hZ hb
  | bp b off => exact RVc.ren (d := .bp b off) h hZ hb
  | bz _ => trivial
  | slx k es => exact RVc.ren (d := .slx k es) h hZ hb
  | _ => exact RVc.ofRp (O := O') (Rp.mono hZ h)
theorem isOwn_renc (m : Nat → Nat) (d : D) : isOwn (renc m d) = isOwn d := by cases d <;> rfl
theorem Ag2V.ren {Z Z' : FZ} {O O' : OM} {w w' : World} {p p' : Pos} {x : Value} {cs : List D} {m : Nat → Nat} (h : Ag2V Z O w p x cs) (hZ : Z.le Z') (hb : ∀ g b, b ∈ cs.flatMap boxc → O g = .box b → O' g = .box (m b))
    (ho : ∀ g, O g = .at p → O' g = .at p' ∧ w'.heap[g]? = w.heap[g]? ∧ ∀ o, Z g o = none → Z' g o = none) : Ag2V Z' O' w' p' x (cs.map (renc m)) := by
  obtain ⟨xs, h1, h2, h3, h4⟩ := h
  refine ⟨xs, h1, by rw [List.length_map]; exact h2, fun i hi hj => ?_, fun i j hi hj hi' hj' hne h5 h6 => ?_⟩
  · have hi' : i < cs.length := by rw [List.length_map] at hi; exact hi
    rw [List.getElem_map]
    exact (h3 i hi' hj).ren hZ (fun g b hb' => hb g b (List.mem_flatMap.2 ⟨_, List.getElem_mem hi', hb'⟩)) fun _ => ho
  · rw [List.length_map] at hi hj
    rw [List.getElem_map, isOwn_renc] at h5 h6
    exact h4 i j hi hj hi' hj' hne h5 h6
theorem RVg.ren {Z Z' : FZ} {O O' : OM} {w w' : World} {p p' : Pos} {x : Value} {d : D} {m : Nat → Nat} (h : RVg Z O w p x d) (hZ : Z.le Z') (hb : ∀ g b, b ∈ boxa d → O g = .box b → O' g = .box (m b))
    (ho : rtr d = true → ∀ g, O g = .at p → O' g = .at p' ∧ w'.heap[g]? = w.heap[g]? ∧ ∀ o, Z g o = none → Z' g o = none) : RVg Z' O' w' p' x (rena m d) := by
  cases d with
  | own e k es => exact OwnV.mv h hZ (ho rfl)
  | raw k n cs => exact RawV.mv (k := k) h hZ (ho rfl)
  | ag2 cs => exact Ag2V.ren h hZ hb (ho rfl)
  | undef => trivial
  | agg cs => exact RVa.ren (d := .agg cs) h hZ hb
  | fn f ds es => exact RVa.ren (d := .fn f ds es) h hZ hb
  | bs b off k n => exact RVa.ren (d := .bs b off k n) h hZ hb
  | bp b off => exact RVa.ren (d := .bp b off) h hZ hb
  | bz _ => trivial
  | slx k es => exact RVa.ren (d := .slx k es) h hZ hb
  | _ => exact RVa.ofRp (O := O') (Rp.mono hZ h)
theorem Tp2V.ren {Z Z' : FZ} {O O' : OM} {w w' : World} {p p' : Pos} {x : Value} {c : Nat} {r : D} {ds : List D} {m : Nat → Nat} (h : Tp2V Z O w p x c r ds) (hZ : Z.le Z') (hb : ∀ g b, b ∈ boxa r ++ ds.flatMap boxa → O g = .box b → O' g = .box (m b))
    (ho : rtr r = true → ∀ g, O g = .at p → O' g = .at p' ∧ w'.heap[g]? = w.heap[g]? ∧ ∀ o, Z g o = none → Z' g o = none) : Tp2V Z' O' w' p' x c (rena m r) (ds.map (rena m)) := by
  obtain ⟨xs, h1, h2, h3, h4⟩ := h
  refine ⟨xs, h1, by rw [List.length_map]; exact h2, fun i hi hj hne => ?_, fun hj => ?_⟩
  · have hi' : i < ds.length := by rw [List.length_map] at hi; exact hi
    rw [List.getElem_map]
    exact (h3 i hi' hj hne).ren hZ (fun g b hb' => hb g b (List.mem_append_right _ (List.mem_flatMap.2 ⟨_, List.getElem_mem hi', hb'⟩)))
  · exact (h4 hj).ren hZ (fun g b hb' => hb g b (List.mem_append_left _ hb')) ho
/-- .. at another position, with other names -/
theorem RV.renB {Z Z' : FZ} {O O' : OM} {w w' : World} {p p' : Pos} {x : Value} {d : D} {m : Nat → Nat} (h : RV Z O w p x d) (hZ : Z.le Z') (hb : ∀ g b, b ∈ boxD d → O g = .box b → O' g = .box (m b))
    (ho : d.rt = true → ∀ g, O g = .at p → O' g = .at p' ∧ w'.heap[g]? = w.heap[g]? ∧ ∀ o, Z g o = none → Z' g o = none) : RV Z' O' w' p' x (renD m d) := by
  cases d with
  | raw => trivial
  | undef => trivial
  | own e k es => exact OwnV.mv h hZ (ho rfl)
  | ag2 cs => exact Ag2V.ren h hZ hb (ho rfl)
  | tp2 c r ds => exact Tp2V.ren h hZ hb ho
  | slx k es => exact RVa.ren (d := .slx k es) h hZ hb
  | ep k es i j => exact RVa.ren (d := .ep k es i j) h hZ hb
  | nn => exact RVa.ren (d := .nn) h hZ hb
  | tup ds =>
    obtain ⟨xs, h1, h2, h3⟩ := h
    refine ⟨xs, h1, by rw [List.length_map]; exact h2, fun i hi hj => ?_⟩
    have hi' : i < ds.length := by rw [List.length_map] at hi; exact hi
    rw [List.getElem_map]
    exact (h3 i hi' hj).ren hZ fun g b hb' => hb g b (by simp only [boxD, List.mem_flatMap]; exact ⟨_, List.getElem_mem hi', hb'⟩)
  | v y => exact RVa.ren (d := .v y) h hZ hb
  | sl es => exact RVa.ren (d := .sl es) h hZ hb
  | agg cs => exact RVa.ren (d := .agg cs) h hZ hb
  | bs b off k n => exact RVa.ren (d := .bs b off k n) h hZ hb
  | bp b off => exact RVa.ren (d := .bp b off) h hZ hb
  | bz _ => trivial
  | fn f ds es => exact RVa.ren (d := .fn f ds es) h hZ hb
theorem renD_id (d : D) : renD (fun b => b) d = d := by
  cases d with
  | tup ds => simp only [renD, map_id_of rena_id]
  | tp2 c r ds => simp only [renD, map_id_of rena_id, rena_id]
  | agg cs => exact rena_id (.agg cs)
  | ag2 cs => exact rena_id (.ag2 cs)
  | fn f xs ys => exact rena_id (.fn f xs ys)
  | _ => rfl
theorem RV.moveP {Z Z' : FZ} {O O' : OM} {w w' : World} {p p' : Pos} {x : Value} {d : D} (h : RV Z O w p x d) (hZ : Z.le Z') (hb : ∀ g b, b ∈ boxD d → O g = .box b → O' g = .box b)
    (ho : d.rt = true → ∀ g, O g = .at p → O' g = .at p' ∧ w'.heap[g]? = w.heap[g]? ∧ ∀ o, Z g o = none → Z' g o = none) : RV Z' O' w' p' x d := by
  have := h.renB (m := fun b => b) hZ hb ho
  rwa [renD_id] at this
theorem RV.moveB {Z Z' : FZ} {O O' : OM} {w w' : World} {p : Pos} {x : Value} {d : D} (h : RV Z O w p x d) (hZ : Z.le Z') (hb : ∀ g b, b ∈ boxD d → O g = .box b → O' g = .box b)
    (ho : d.rt = true → ∀ g, O g = .at p → O' g = .at p ∧ w'.heap[g]? = w.heap[g]? ∧ ∀ o, Z g o = none → Z' g o = none) : RV Z' O' w' p x d := h.moveP hZ hb ho
theorem RV.move {Z Z' : FZ} {O O' : OM} {w w' : World} {p : Pos} {x : Value} {d : D} (h : RV Z O w p x d) (hZ : Z.le Z') (hb : ∀ g b, O g = .box b → O' g = .box b)
    (ho : d.rt = true → ∀ g, O g = .at p → O' g = .at p ∧ w'.heap[g]? = w.heap[g]? ∧ ∀ o, Z g o = none → Z' g o = none) : RV Z' O' w' p x d := h.moveB hZ (fun g b _ => hb g b) ho

theorem Inv.rd {Z0 : FZ} {w0 : Base} {w : World} {Z : FZ} {O : OM} {st : St} {a : Act} (I : Inv Z0 w0 Z O st a w) {x : Operand} {d : D} (h : st.rd x = some d) : ∃ p, RV Z O w p (a.eval x) d ∧ ∀ t, x = .tmp t → p = .t t := by
  cases x with
  | const v => simp only [St.rd, Option.some.injEq] at h; subst h; exact ⟨.t 0, .v _, fun t h => by cases h⟩
  | global g =>
    simp only [St.rd, Option.some.injEq] at h
    subst h
    refine ⟨.t 0, ?_, fun t h => by cases h⟩
    unfold gD
    split
    · rename_i cs hc
      have hx : a.eval (.global g) = .pointer (some ⟨g, 0 + 0 * cs.length + 0, none⟩) := by simp [Act.eval]
      rw [hx]
      refine Els.ep (es := [cs.map .v]) ⟨fun i hi => ?_, fun i hi j hj => ?_⟩ 0 0
      · have : i = 0 := by simp at hi; exact hi
        subst this
        simp
      · have : i = 0 := by simp at hi; exact hi
        subst this
        have hj' : j < cs.length := by simpa using hj
        refine ⟨cs[j], ?_, ?_⟩
        · have := I.bs g cs hc j hj'
          simpa using this
        · simp only [List.getElem_cons_zero, List.getElem_map]
          exact .v _
    · exact .v _
  | func f => simp only [St.rd, Option.some.injEq] at h; subst h; exact ⟨.t 0, .v _, fun t h => by cases h⟩
  | tmp t =>
    have hd : st.at t = d ∧ d ≠ .undef := by
      simp only [St.rd] at h
      split at h
      · cases h
      · rename_i h1 ; simp only [Option.some.injEq] at h; exact ⟨h, fun e => h1 (h.trans e)⟩
    have hlt : t < st.t.length := by
      rcases Nat.lt_or_ge t st.t.length with hl | hl
      · exact hl
      · refine absurd ?_ hd.2
        rw [← hd.1, St.at, List.getD_eq_getElem?_getD, List.getElem?_eq_none hl]; rfl
    have := I.tv t hlt (by rw [I.tsz]; exact hlt)
    have h2 : st.t[t] = d := by rw [← hd.1, St.at, List.getD_eq_getElem?_getD, List.getElem?_eq_getElem hlt]; rfl
    rw [h2] at this
    refine ⟨.t t, ?_, fun s h => by cases h; rfl⟩
    have he : a.eval (.tmp t) = a.tmps[t]'(by rw [I.tsz]; exact hlt) := by
      simp [Act.eval, Array.getD, I.tsz, hlt]
    rw [he]; exact this

theorem put_len (st : St) (dst : Option Tmp) (d : D) : (st.put dst d).t.length = st.t.length := by
  cases dst <;> simp [St.put]
theorem put_size (a : Act) (dst : Option Tmp) (x : Value) : (a.put dst x).tmps.size = a.tmps.size := by
  cases dst <;> simp [Act.put]
theorem put_b (st : St) (dst : Option Tmp) (d : D) : (st.put dst d).b = st.b := by cases dst <;> rfl
theorem put_bx (st : St) (dst : Option Tmp) (d : D) (b : Nat) : (st.put dst d).bx b = st.bx b := by cases dst <;> rfl
theorem put_df (a : Act) (dst : Option Tmp) (x : Value) : (a.put dst x).defers = a.defers := by cases dst <;> rfl
theorem put_cases (st : St) (a : Act) (dst : Option Tmp) (d : D) (x : Value) (i : Nat) (h : i < (st.put dst d).t.length) (h' : i < (a.put dst x).tmps.size) :
    (dst = some i ∧ (st.put dst d).t[i] = d ∧ (a.put dst x).tmps[i] = x) ∨
    ((st.put dst d).t[i] = st.t[i]'(by rw [put_len] at h; exact h) ∧ (a.put dst x).tmps[i] = a.tmps[i]'(by rw [put_size] at h'; exact h')) := by
  cases dst with
  | none => exact .inr ⟨rfl, rfl⟩
  | some k =>
    by_cases hk : k = i
    · subst hk
      refine .inl ⟨rfl, ?_, ?_⟩
      · simp [St.put]
      · simp only [Act.put]; rw [Array.getElem_setIfInBounds (by simpa [Act.put] using h')]; simp
    · refine .inr ⟨?_, ?_⟩
      · simp only [St.put]; rw [List.getElem_set_ne hk]
      · simp only [Act.put]; rw [Array.getElem_setIfInBounds (by simpa [Act.put] using h'), if_neg hk]

/-- (A) a temporary takes what is told -/
theorem Inv.put {Z0 : FZ} {w0 : Base} {w : World} {Z : FZ} {O : OM} {st : St} {a : Act} (I : Inv Z0 w0 Z O st a w) (dst : Option Tmp) (d : D) (x : Value)
    (h : ∀ i, dst = some i → RV Z O w (.t i) x d) : Inv Z0 w0 Z O (st.put dst d) (a.put dst x) w where
  tsz := by rw [put_size, put_len]; exact I.tsz
  tv := fun i h1 h2 => by
    rcases put_cases st a dst d x i h1 h2 with ⟨e, e1, e2⟩ | ⟨e1, e2⟩
    · rw [e1, e2]; exact h i e
    · rw [e1, e2]; exact I.tv i _ _
  bv := fun b cs hb => I.bv b cs (by rw [put_bx] at hb; exact hb)
  uq := I.uq
  ob := I.ob
  ag := I.ag
  bl := I.bl
  df := by rw [put_df]; exact I.df
  zn := I.zn
  bs := I.bs
  oi := I.oi
  oo := I.oo

/-- a right goes from one position to another -/
def OM.mv (O : OM) (p q : Pos) : OM := fun g => if O g = .at p then .at q else O g
theorem OM.mv_box {O : OM} {p q : Pos} {g b : Nat} : O.mv p q g = .box b ↔ O g = .box b := by
  unfold OM.mv
  by_cases h : O g = .at p
  · rw [if_pos h, h]; exact ⟨fun h => (by cases h), fun h => (by cases h)⟩
  · rw [if_neg h]
theorem OM.mv_other {O : OM} {p q r : Pos} (hr : r ≠ p) {g : Nat} (h : O g = .at r) : O.mv p q g = .at r := by
  unfold OM.mv
  rw [if_neg (fun e => hr (by rw [h] at e; injection e)), h]
theorem OM.mv_self {O : OM} {p q : Pos} {g : Nat} (h : O g = .at p) : O.mv p q g = .at q := by
  unfold OM.mv; rw [if_pos h]
theorem OM.mv_none {O : OM} {p q : Pos} {g : Nat} (h : O.mv p q g ≠ .none) : O g ≠ .none := by
  unfold OM.mv at h
  by_cases e : O g = .at p
  · rw [e]; intro h; cases h
  · rw [if_neg e] at h; exact h
theorem RV.mvo {Z : FZ} {O : OM} {w : World} {p q r : Pos} {x : Value} {d : D} (h : RV Z O w r x d) (hr : r ≠ p ∨ d.rt = false) : RV Z (O.mv p q) w r x d :=
  h.move (FZ.le_refl Z) (fun g b hb => OM.mv_box.2 hb) (fun he g hg => ⟨OM.mv_other (hr.resolve_right fun hn => by rw [hn] at he; cases he) hg, rfl, fun _ ho => ho⟩)
theorem RV.mvs {Z : FZ} {O : OM} {w : World} {p q : Pos} {x : Value} {d : D} (h : RV Z O w p x d) : RV Z (O.mv p q) w q x d :=
  h.moveP (FZ.le_refl Z) (fun g b _ hb => OM.mv_box.2 hb) (fun _ g hg => ⟨OM.mv_self hg, rfl, fun _ ho => ho⟩)
theorem RV.cell {Z : FZ} {O : OM} {w : World} {p : Pos} {x : Value} {d : D} (h : RV Z O w p x d) (h1 : one d = true) : RVc Z O x (Eng.strip d) := by
  cases d with
  | v _ => exact RVc.ofRp h
  | sl _ => exact RVc.ofRp h
  | own e k es => exact RVc.ofRp (d := .sl es) h.strip
  | slx k es => exact RVc.ofRp (d := .sl es) h.1
  | bs _ _ _ _ => exact h
  | bp _ _ => exact h
  | fn _ _ _ => exact h
  | ep _ _ _ _ => exact h
  | nn => exact h
  | _ => simp [one] at h1
theorem RV.cellb {Z : FZ} {O : OM} {w : World} {p : Pos} {x : Value} {d : D} (h : RV Z O w p x d) (h1 : oneb d = true) : RVc Z O x (Eng.strip d) := by
  cases d with
  | bz => trivial
  | _ => exact h.cell h1
theorem strip_own (d : D) : ∀ e k es, strip d ≠ .own e k es := by
  intro e k es
  cases d <;> simp [strip]
theorem strip_rt (d : D) : (strip d).rt = false := by
  cases d with
  | tp2 c r ds => cases r <;> rfl
  | _ => rfl
theorem stripO_own (d : D) : ∀ e k es, stripO d ≠ .own e k es := by
  intro e k es
  cases d <;> simp [stripO]
theorem stripAt_len (t : List D) (i : Nat) : (stripAt t i).length = t.length := by simp [stripAt]
theorem stripAt_get (t : List D) (s i : Nat) (h : i < (stripAt t s).length) : (stripAt t s)[i] = if s = i then strip (t[i]'(by rw [stripAt_len] at h; exact h)) else t[i]'(by rw [stripAt_len] at h; exact h) := by
  simp [stripAt, List.getElem_modify]

/-- rights go from one temporary to several places -/
def OM.sp (O : OM) (s : Tmp) (ρ : Nat → Pos) : OM := fun g => if O g = .at (.t s) then .at (ρ g) else O g
theorem OM.sp_box {O : OM} {s : Tmp} {ρ : Nat → Pos} {g b : Nat} : O.sp s ρ g = .box b ↔ O g = .box b := by
  unfold OM.sp
  by_cases h : O g = .at (.t s)
  · rw [if_pos h, h]; exact ⟨fun h => (by cases h), fun h => (by cases h)⟩
  · rw [if_neg h]
theorem OM.sp_other {O : OM} {s : Tmp} {ρ : Nat → Pos} {r : Pos} (hr : r ≠ .t s) {g : Nat} (h : O g = .at r) : O.sp s ρ g = .at r := by
  unfold OM.sp
  rw [if_neg (fun e => hr (by rw [h] at e; injection e)), h]
theorem OM.sp_self {O : OM} {s : Tmp} {ρ : Nat → Pos} {g : Nat} (h : O g = .at (.t s)) : O.sp s ρ g = .at (ρ g) := by
  unfold OM.sp; rw [if_pos h]
theorem OM.sp_none {O : OM} {s : Tmp} {ρ : Nat → Pos} {g : Nat} (h : O.sp s ρ g ≠ .none) : O g ≠ .none := by
  unfold OM.sp at h
  by_cases e : O g = .at (.t s)
  · rw [e]; intro h; cases h
  · rw [if_neg e] at h; exact h
theorem RV.spo {Z : FZ} {O : OM} {w : World} {s : Tmp} {ρ : Nat → Pos} {r : Pos} {x : Value} {d : D} (h : RV Z O w r x d) (hr : r ≠ .t s ∨ d.rt = false) : RV Z (O.sp s ρ) w r x d :=
  h.move (FZ.le_refl Z) (fun g b hb => OM.sp_box.2 hb) (fun he g hg => ⟨OM.sp_other (hr.resolve_right fun hn => by rw [hn] at he; cases he) hg, rfl, fun _ ho => ho⟩)
/-- (B) a right goes over from a temporary to places that are none of the temporaries' or variables', and may be put there -/
theorem Inv.outS {Z0 : FZ} {w0 : Base} {w : World} {Z : FZ} {O : OM} {st : St} {a : Act} (I : Inv Z0 w0 Z O st a w) (s : Tmp) (ρ : Nat → Pos) : Inv Z0 w0 Z (O.sp s ρ) { st with t := stripAt st.t s } a w where
  tsz := by rw [I.tsz]; exact (stripAt_len _ _).symm
  tv := fun i h1 h2 => by
    have h1' : i < st.t.length := by simpa [stripAt_len] using h1
    have hg := stripAt_get st.t s i h1
    show RV _ _ _ _ _ ((stripAt st.t s)[i])
    rw [hg]
    by_cases e : s = i
    · rw [if_pos e]; exact (I.tv i h1' h2).strip.spo (.inr (strip_rt _))
    · rw [if_neg e]; exact (I.tv i h1' h2).spo (.inl fun h => e (by injection h with h; exact h.symm))
  bv := fun b cs hb => by
    obtain ⟨g, xs, e, h1, h2, h3, h4, h5⟩ := I.bv b cs hb
    exact ⟨g, xs, e, OM.sp_box.2 h1, h2, h3, fun j h h' => ⟨(h4 j h h').1.spo (.inl (by simp)), (h4 j h h').2⟩, h5⟩
  uq := fun g g' b h h' => I.uq g g' b (OM.sp_box.1 h) (OM.sp_box.1 h')
  ob := fun g h => I.ob g (OM.sp_none h)
  ag := I.ag
  bl := I.bl
  df := I.df
  zn := I.zn
  bs := I.bs
  oi := fun g b h => OM.sp_box.2 (I.oi g b h)
  oo := fun g b h => I.oo g b (OM.sp_box.1 h)
theorem Inv.out {Z0 : FZ} {w0 : Base} {w : World} {Z : FZ} {O : OM} {st : St} {a : Act} (I : Inv Z0 w0 Z O st a w) (s : Tmp) (q : Pos) : Inv Z0 w0 Z (O.mv (.t s) q) { st with t := stripAt st.t s } a w :=
  I.outS s fun _ => q
theorem RVc.oneC {Z : FZ} {O : OM} {x : Value} {d : D} (h : RVc Z O x d) (h1 : one d = true) : x.oneCell' = true := by
  cases d with
  | v y => have h : Rp Z x (.v y) := h; cases h; exact h1
  | sl es => have h : Rp Z x (.sl es) := h; cases h; rfl
  | nn => have h : Rp Z x .nn := h; cases h; rfl
  | ep k es i j => have h : Rp Z x (.ep k es i j) := h; cases h; rfl
  | bs b o k n => obtain ⟨g, c, _, rfl, _⟩ := h; rfl
  | bp b o => obtain ⟨g, _, rfl⟩ := h; rfl
  | fn f xs ys => obtain ⟨us, vs, rfl, _⟩ := h; rfl
  | slx k es => obtain ⟨_, a, n, rfl⟩ := h; rfl
  | own e k es => cases h
  | _ => cases h1
/-- the parts that go out of a temporary to a variable's cells -/
theorem Ag2V.out {Z : FZ} {O : OM} {w : World} {s : Tmp} {x : Value} {cs : List D} (h : Ag2V Z O w (.t s) x cs) : ∃ xs : List Value, x = .agg xs.toArray ∧ xs.length = cs.length ∧ ∃ ix : Nat → Nat, ∀ b off i (hi : i < cs.length) (hj : i < xs.length), one cs[i] = true → RV Z (O.sp s fun g => .b b (off + ix g)) w (.b b (off + i)) xs[i] cs[i] ∧ xs[i].oneCell' = true := by
  classical
  obtain ⟨xs, h1, h2, h3, h4⟩ := h
  let T : Nat → Nat → Prop := fun g i => ∃ (hi : i < cs.length) (hj : i < xs.length), isOwn cs[i] = true ∧ ∃ n c, xs[i] = .slice (some ⟨g, 0, none⟩) n c
  have hT : ∀ g i j, T g i → T g j → i = j := by
    rintro g i j ⟨a1, a2, a3, n, c, a4⟩ ⟨b1, b2, b3, n', c', b4⟩
    refine Classical.byContradiction fun hne => ?_
    exact h4 i j a1 b1 a2 b2 hne a3 b3 _ _ _ _ _ _ a4 b4 rfl
  refine ⟨xs, h1, h2, fun g => if h : ∃ i, T g i then h.choose else 0, fun b off i hi hj h5 => ?_⟩
  have h6 := h3 i hi hj
  by_cases ho : isOwn cs[i] = true
  · obtain ⟨e, k, es, he⟩ : ∃ e k es, cs[i] = .own e k es := by
      revert ho
      generalize cs[i] = d
      intro ho
      cases d <;> first | exact ⟨_, _, _, rfl⟩ | cases ho
    rw [he] at h6 ⊢
    refine ⟨?_, ?_⟩
    · rcases h6 with h6 | ⟨g, c, cur, q1, q2, q3⟩
      · exact .inl h6
      · refine .inr ⟨g, c, cur, q1, ?_, q3⟩
        rw [OM.sp_self q2]
        have hex : ∃ i, T g i := ⟨i, hi, hj, ho, _, _, q1⟩
        have : (if h : ∃ i, T g i then h.choose else 0) = i := by
          rw [dif_pos hex]
          exact hT g _ _ hex.choose_spec ⟨hi, hj, ho, _, _, q1⟩
        simp only [this]
    · rcases h6 with ⟨_, h6⟩ | ⟨g, c, cur, q1, _⟩
      · rw [h6]; rfl
      · rw [q1]; rfl
  · have h7 : RVc Z O xs[i] cs[i] := by
      revert h6 ho
      generalize cs[i] = d
      intro h6 ho
      cases d <;> first | exact h6 | exact absurd rfl ho
    exact ⟨(h7.move (FZ.le_refl Z) fun g b hb => OM.sp_box.2 hb).rv, h7.oneC h5⟩

/-- what a function makes, for whoever calls it. 'O0': who holds what it is handed -/
structure PostC (Z : FZ) (w : World) (O0 : OM) (n : Nat) (Z' : FZ) (O' : OM) (w' : World) (v : Value) (r : D) (os' : List (List D)) : Prop where
  zle : Z.le Z'
  zn : ∀ b o x, Z' b o = some x → Z b o = some x ∨ w.heap.size ≤ b ∨ O0 b ≠ .none
  ag : Agree Z' w'
  wos : w'.os = w.os
  wtape : w'.tape = w.tape
  wout : w'.output = w.output
  wsz : w.heap.size ≤ w'.heap.size
  wblk : ∀ k, k < w.heap.size → O0 k = .none → w'.heap[k]? = w.heap[k]?
  olen : os'.length = n
  obv : ∀ i cs, os'[i]? = some cs → BV Z' O' w' (OB + i) cs
  obx : ∀ g b, O' g = .box b ↔ O0 g = .box b
  oob : ∀ g, O' g ≠ .none → (w.heap.size ≤ g ∨ O0 g ≠ .none) ∧ g < w'.heap.size
  rv : RVr Z' O' w' (.t 0) v r
def Contract (P : Program) (f : FuncId) (ds : List D) (os : List (List D)) (r : D) (os' : List (List D)) : Prop :=
  ∀ (Z : FZ) (w : World) (vs : Array Value) (O0 : OM), Agree Z w → Bs Z → vs.size = ds.length → (∀ i (h : i < ds.length) (h' : i < vs.size), RV Z O0 w (.t i) vs[i] ds[i]) →
    (∀ i cs, os[i]? = some cs → BV Z O0 w (OB + i) cs) → (∀ g g' b, O0 g = .box b → O0 g' = .box b → g = g') → (∀ g b, O0 g = .box b → OB ≤ b) → (∀ g, O0 g ≠ .none → g < w.heap.size) → Gks w → (∀ g, g ∈ gids → O0 g = .none) →
    Calls P f vs w fun e w' => ∃ v Z' O', e = .returned v ∧ PostC Z w O0 os.length Z' O' w' v r os'

theorem wp_value {P : Program} {o : Oper} {a : Act} {w w' : World} {K : Act → World → Prop} {Q : Exit → Act → World → Prop} {x : Value} (h : (execOp a.eval o).run P w = .ok (.value x) w') (hK : K (a.put o.dst x) w') : o.wp P a w K Q := by
  unfold Oper.wp; rw [h]; exact hK
theorem run_value {P : Program} {s : Sem Value} {x : Value} {w w' : World} (h : s.run P w = .ok x w') : (do pure (Next.value (← s)) : Sem Next).run P w = .ok (.value x) w' := by
  rw [Sem.run_bind, h]; rfl

end Go.Eng
